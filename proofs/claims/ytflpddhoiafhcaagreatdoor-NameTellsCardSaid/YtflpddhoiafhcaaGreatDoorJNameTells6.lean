/- Texts of the proof of 'NameTells', joined by a program (part 6): contracts of functions, plain laws. -/
import Derived.Test.YtflpddhoiafhcaaGreatDoorJNameTells0
import Derived.Test.YtflpddhoiafhcaaGreatDoorJNameTells2
import Derived.Test.YtflpddhoiafhcaaGreatDoorJNameTells5
import Derived.Test.YtflpddhoiafhcaaGreatDoorJNameTells4
set_option linter.unusedVariables false
set_option linter.unusedSimpArgs false
set_option linter.unusedSectionVars false
section
-- Written by wip/hprint.py of this repo (holes typed by hand, all else by a program) over the seat YtflpddhoiafhcaaGreatDoor.
namespace Go.Proofs.YtflpddhoiafhcaaGreatDoor.R
open Go.Proofs.YtflpddhoiafhcaaGreatDoor.H
open Go.RowKit Go.Proofs.YtflpddhoiafhcaaGreatDoorW.PrintWords Go.Proofs.YtflpddhoiafhcaaGreatDoorW.PrintLast Go.Proofs.YtflpddhoiafhcaaGreatDoorW.PrintMore
attribute [local go_sem] max2_int min2_int max_two min_two max_three min_three max_four min_four   -- for this text's walks alone
set_option linter.unusedVariables false
set_option linter.unusedSimpArgs false

attribute [local go_sem high] eqA93
def almanackerref08_lengths.j0 : Nat → List Int → Int → Int → Bool → Option (List Int)
  | 0, _, _, _, _ => none
  | k + 1, x3, x266000, x266001, x266002 => if x266001 = 0 then (if 2 < (x3.length : Int) then ((some (x3.set (2 : Int).toNat 29 : List Int)).bind fun y270 => (if x266002 = true then (if y270.length < 17592186044416 then ((some (y270 ++ [30] : List Int)).bind fun y271 => ((some (([29, 30, 29, 30, 29, 30, 29] : List Int) : List Int)).bind fun y274 => (if y271.length + y274.length < 17592186044416 then (some (y271 ++ y274)) else (none)))) else (none)) else ((some (([29, 30, 29, 30, 29, 30, 29] : List Int) : List Int)).bind fun y280 => (if y270.length + y280.length < 17592186044416 then (some (y270 ++ y280)) else (none))))) else (none)) else (if x266002 = true then (if x3.length < 17592186044416 then ((some (x3 ++ [30] : List Int)).bind fun y286 => ((some (([29, 30, 29, 30, 29, 30, 29] : List Int) : List Int)).bind fun y289 => (if y286.length + y289.length < 17592186044416 then (some (y286 ++ y289)) else (none)))) else (none)) else ((some (([29, 30, 29, 30, 29, 30, 29] : List Int) : List Int)).bind fun y295 => (if x3.length + y295.length < 17592186044416 then (some (x3 ++ y295)) else (none))))
def almanackerref08_lengths.f (k : Nat) (a0_0 : Int) (a0_1 : Int) (a0_2 : Bool) : Option (List Int) := (some (([30, 29, 30, 29, 30] : List Int) : List Int)).bind fun y266 => (if a0_1 = 2 then (if 1 < (y266.length : Int) then (almanackerref08_lengths.j0 k (y266.set (1 : Int).toNat 30) a0_0 a0_1 a0_2) else (none)) else (almanackerref08_lengths.j0 k y266 a0_0 a0_1 a0_2))
theorem almanackerref08_lengths.mono_l : ∀ k, (∀ y0 y1 y2 y3, LeO (almanackerref08_lengths.j0 k y0 y1 y2 y3) (almanackerref08_lengths.j0 (k + 1) y0 y1 y2 y3))
 | 0 => fun _ _ _ _ r h => by simp [almanackerref08_lengths.j0] at h
 | k + 1 => by
  have ih0 := almanackerref08_lengths.mono_l k
  ·
   intro y0 y1 y2 y3
   unfold almanackerref08_lengths.j0
   repeat' first
   | (with_reducible exact ih0 _ _ _ _)
   | (with_reducible exact LeO.refl _)
   | (with_reducible exact LeO.none _)
   | (with_reducible refine LeO.ite ?_ ?_)
   | (with_reducible refine LeO.bind ?_ (fun _ => ?_))
   | exact ih0 _ _ _ _
   | exact LeO.none _
   | refine LeO.ite ?_ ?_
   | refine LeO.bind ?_ (fun _ => ?_)
theorem almanackerref08_lengths.mono : ∀ a0 a1 a2 k, LeO (almanackerref08_lengths.f k a0 a1 a2) (almanackerref08_lengths.f (k + 1) a0 a1 a2) := by
 intro a0 a1 a2 k
 have ih0 := almanackerref08_lengths.mono_l k
 unfold almanackerref08_lengths.f
 repeat' first
   | (with_reducible exact ih0 _ _ _ _)
   | (with_reducible exact LeO.refl _)
   | (with_reducible exact LeO.none _)
   | (with_reducible refine LeO.ite ?_ ?_)
   | (with_reducible refine LeO.bind ?_ (fun _ => ?_))
   | exact ih0 _ _ _ _
   | exact LeO.none _
   | refine LeO.ite ?_ ?_
   | refine LeO.bind ?_ (fun _ => ?_)
set_option maxHeartbeats 8000000 in
set_option maxRecDepth 100000 in
theorem almanackerref08_lengths.calls (k : Nat) (a0_0 : Int) (a0_1 : Int) (a0_2 : Bool) (r : List Int) (w : World) (h : almanackerref08_lengths.f k a0_0 a0_1 a0_2 = some r) :
  Calls Tryz.prog 152 #[.agg #[.int .i64 a0_0,.int .i64 a0_1,.bool a0_2]] w fun e w'=>∃ v0_ : Value,e = .returned (v0_) ∧ Kd.R (Kd.int .i64) 3 w' w.heap.size (fun _=>True) v0_ r ∧ Below w.heap.size w w':=by
 have hu93 := Tryz.underlying93
 have HB := zz00 (Below.refl w.heap.size w)
 have H : ((some (([30,29,30,29,30] : List Int) : List Int)).bind fun y266=>(if a0_1 = 2 then (if 1 < (y266.length : Int) then (almanackerref08_lengths.j0 k (y266.set (1 : Int).toNat 30) a0_0 a0_1 a0_2) else (none)) else (almanackerref08_lengths.j0 k y266 a0_0 a0_1 a0_2))) = some r:=h
 clear h
 obtain ⟨y266, hy266⟩ : ∃ y_ : List Int, y_ = (([30, 29, 30, 29, 30] : List Int)) := ⟨_, rfl⟩
 replace H : (if a0_1 = 2 then (if 1 < (y266.length : Int) then (almanackerref08_lengths.j0 k (y266.set (1 : Int).toNat 30) a0_0 a0_1 a0_2) else (none)) else (almanackerref08_lengths.j0 k y266 a0_0 a0_1 a0_2)) = some r:=by first|(rw [hy266];with_reducible exact H)|(have H2_:=(Option.bind_some _ _).symm.trans H;rw [hy266];with_reducible exact H2_)|(have H2_:=(Option.bind_some _ _).symm.trans H;with_reducible exact H2_)|with_reducible exact H|(rw [hy266];exact H)|exact H
 have Ny266 := zz00 hy266
 clear hy266
 have HC2 := zz00 H
 clear H
 go_enter Tryz.func152, Tryz.ntmps152
 go_upto_if 7 with (first|((with_reducible refine zz24 (N:=1) rfl ?_);refine zz30 ?hg (N:=1) ?hd (cs:=#[.int .i64 a0_0,.int .i64 a0_1,.bool a0_2]) (t:=93) ?hr ?_;(case hd=>rfl);(case hg=>rfl);(case hr=>first|(go_simp;done)|(go_simp;rfl));intro gb265 hg w3 hbox hb;have n0_:=zz00 (zz21 (by repeat (first|(with_reducible first|exact HB.out|apply zz03|apply zz01|apply zz02)|exact HB.out)) hb);have n1_:=zz00 (hbox);have n2_:=zz00 ((by rw [hg];exact (zz22 (by repeat (first|(with_reducible first|exact HB.out|apply zz03|apply zz01|apply zz02)|exact HB.out))) : w.heap.size ≤ gb265));have n3_:=zz00 ((by rw [hg];exact (zz22 (by repeat (first|(with_reducible first|exact HB.out|apply zz03|apply zz01|apply zz02)|exact HB.out))) : w.heap.size ≤ gb265));clear HB;have HB:=n0_;have BK265:=n1_;have GW265:=n2_;have GE265:=n3_;clear n0_ n1_ n2_ n3_;clear hb hbox hg)|((with_reducible refine zz24 (N:=4) rfl ?_);refine Kd.R_lit (Kd.int .i64) _ 3 ?hg (N:=4) ?hd (xs:=([30,29,30,29,30] : List Int)) (inner:=[.int .i64 30,.int .i64 29,.int .i64 30,.int .i64 29,.int .i64 30]) (ok:=fun _=>True) (okp:=fun _=>True) ?hr ?hp (fun _ hk=>hk) trivial (Below.refl _ _) (Nat.le_refl _) (by simp) ?_;(case hd=>rfl);(case hg=>rfl);(case hr=>first|(go_simp;done)|(go_simp;rfl));(case hp=>exact (Reps.one (show Kd.M (Kd.int .i64) _ _ _ 30 [.int .i64 30] from rfl) (Reps.one (show Kd.M (Kd.int .i64) _ _ _ 29 [.int .i64 29] from rfl) (Reps.one (show Kd.M (Kd.int .i64) _ _ _ 30 [.int .i64 30] from rfl) (Reps.one (show Kd.M (Kd.int .i64) _ _ _ 29 [.int .i64 29] from rfl) (Reps.one (show Kd.M (Kd.int .i64) _ _ _ 30 [.int .i64 30] from rfl) (Reps.none _ _)))))));intro v267 w4 ho5 hb hg_ hnew_;clear hg_ hnew_;(first|rw [← Ny266.out] at ho5|(simp only [Int.reduceToNat] at ho5;rw [← Ny266.out] at ho5));have n0_:=zz00 (Kd.R_lower ho5 (zz22 (by repeat (first|(with_reducible first|exact HB.out|apply zz03|apply zz01|apply zz02|refine zz10 ?_ GE265.out)|exact HB.out))));have n1_:=zz00 (zz34 (g:=gb265) (o:=.cells #[.int .i64 a0_0,.int .i64 a0_1,.bool a0_2] 93 (0,0)) (by (with_reducible repeat (first|refine zz07 ?_ _|refine zz09 ?_|refine zz08 ?_ _));exact BK265.out) hb);have n2_:=zz00 (zz21 (by repeat (first|(with_reducible first|exact HB.out|apply zz03|apply zz01|apply zz02|refine zz10 ?_ GE265.out)|exact HB.out)) hb);clear BK265;clear HB;have HO268:=n0_;have BK265:=n1_;have HB:=n2_;clear n0_ n1_ n2_;clear hb ho5;have hcz6_0 : w4.cell? ⟨gb265,0,none⟩ = some (.int .i64 a0_0):=(zz18 BK265.out 0).trans rfl;have hcz6_1 : w4.cell? ⟨gb265,1,none⟩ = some (.int .i64 a0_1):=(zz18 BK265.out 1).trans rfl;have hcz6_2 : w4.cell? ⟨gb265,2,none⟩ = some (.bool a0_2):=(zz18 BK265.out 2).trans rfl;have hfz6_0:=zz17 BK265.out 0;have hfz6_1:=zz17 BK265.out 1;have hfz6_2:=zz17 BK265.out 2))
 (try simp only [Act.put, zz11, zz12, zz13])
 go_cut [] (fun wc=>∃ (kq : Nat) (x3_1 : List Int),Aside0 (almanackerref08_lengths.j0 kq x3_1 a0_0 a0_1 a0_2 = some r) ∧ Aside0 (kq ≤ k) ∧ Aside0 (Kd.R (Kd.int .i64) 3 wc w.heap.size (fun _=>True) v267 x3_1) ∧ Aside0 (wc.heap[gb265]? = some (.cells #[.int .i64 a0_0,.int .i64 a0_1,.bool a0_2] 93 (0,0))) ∧ Aside0 (Below w.heap.size w wc))
 case first =>
  have H := HC2.out
  clear HC2
  by_cases c7 : a0_1 = 2
  ·
   rw [if_pos c7] at H
   have c7b0 : (a0_1 == 2) = true := zz29.mpr c7
   have c7b1 : (a0_1 != 2) = false := zz26.mpr c7
   clear c7
   (first | rw [c7b0] | (simp only [i64_w, i32_w]; rw [c7b0]) | skip)
   by_cases c8 : 1 < (y266.length : Int)
   ·
    rw [if_pos c8] at H
    have c8b0 : decide (1 < (y266.length : Int)) = true := decide_eq_true c8
    have c8b1 : decide (1 < y266.length) = true := decide_eq_true (by omega)
    clear c8
    obtain ⟨y269, hy269⟩ : ∃ y_ : List Int, y_ = (y266.set (1 : Int).toNat 30) := ⟨_, rfl⟩
    replace H : (almanackerref08_lengths.j0 k y269 a0_0 a0_1 a0_2) = some r:=by first|(rw [hy269];with_reducible exact H)|(have H2_:=(Option.bind_some _ _).symm.trans H;rw [hy269];with_reducible exact H2_)|(have H2_:=(Option.bind_some _ _).symm.trans H;with_reducible exact H2_)|with_reducible exact H|(rw [hy269];exact H)|exact H
    have Ny269 := zz00 hy269
    clear hy269
    have H' := zz00 H
    clear H
    have p9 : 0 ≤ (1 : Int) := (by omega)
    have q9 : (1 : Int) < ((y266.length : Int) : Int) := zz31 (by first | (with_reducible assumption) | assumption)
    have qi9 : (1 < y266.length) = True := eq_true (by omega)
    obtain ⟨go9, co9, eo9, gb9, gl9, cl9, HG9⟩ := Kd.R_form HO268.out (by omega)
    (first | cases eo9 | (injection eo9 with ea_ en_ ec_; (first | subst ea_ | (injection ea_ with ea_; subst ea_)); subst ec_; clear en_))
    have GB9 := zz00 gb9
    have GG9 := zz00 HG9
    clear gb9 gl9 HG9
    obtain ⟨hx9_0, hf9_0⟩ := Kd.R_celln 0 HO268.out (1 : Int) p9 q9
    (try rw [show ((1 : Int)).toNat = 1 from rfl] at hx9_0)
    (try simp only [Nat.reduceMul, Nat.zero_mul, Nat.zero_add, Nat.reduceAdd] at hx9_0)
    (try rw [show ((1 : Int)).toNat = 1 from rfl] at hf9_0)
    (try simp only [Nat.reduceMul, Nat.zero_mul, Nat.zero_add, Nat.reduceAdd] at hf9_0)
    replace p9 := eq_true p9
    replace q9 := eq_true q9
    have HP10 := Kd.R_putg HO268.out (1 : Int) 30
    go_wp2_with (first|((with_reducible refine gate_store (t:=3) (p:=9) rfl ?_);refine store_event (t:=3) (p:=9) (v:=?vo_w11) (w1:=(w4.setCell ⟨go9,(1 : Int).toNat,none⟩ (.int .i64 30))) ?hg ?ho ?hn ?hr ?_;(case ho=>rfl);(case hg=>rfl);(case hn=>rfl);(case hr=>first|(go_simp;done)|(go_simp;rfl));intro w11 hw;have hg : w4.grownBy w11 (some go9):=(by rw [hw];exact HP10.2);have hp_ : Kd.R (Kd.int .i64) 3 w11 w.heap.size (fun _=>True) (.slice (some ⟨go9,0,none⟩) y266.length co9) y269:=(by rw [hw,Ny269.out];exact HP10.1);clear HP10;have n0_:=zz00 (blk_grown (g:=gb265) (o:=.cells #[.int .i64 a0_0,.int .i64 a0_1,.bool a0_2] 93 (0,0)) (by (with_reducible repeat (first|refine zz07 ?_ _|refine zz09 ?_|refine zz08 ?_ _));exact BK265.out) hg (Kd.R_ne HO268.out BK265.out (by decide)));have n1_:=zz00 (hp_);have n2_:=zz00 ((by rw [hw];exact zz10 (HB.out) GB9.out : Below w.heap.size w w11));clear BK265;clear HO268;clear HB;have BK265:=n0_;have HO268:=n1_;have HB:=n2_;clear n0_ n1_ n2_;clear hg hw hp_))
    go_meet
    case rel=>exact ⟨_,(y269),H',⟨by first|omega|exact Nat.le_refl _⟩,⟨by (with_reducible repeat (first|apply zz05|apply zz04|apply zz06));exact HO268.out⟩,⟨by (with_reducible repeat (first|refine zz07 ?_ _|refine zz09 ?_|refine zz08 ?_ _));exact BK265.out⟩,⟨by repeat (first|(with_reducible first|exact HB.out|apply zz03|apply zz01|apply zz02|refine zz10 ?_ GE265.out)|exact HB.out)⟩⟩
   ·
    rw [if_neg c8] at H
    exact absurd H (by simp)
  ·
   rw [if_neg c7] at H
   have c7b0 : (a0_1 == 2) = false := zz27.mpr c7
   have c7b1 : (a0_1 != 2) = true := zz28.mpr c7
   (first | rw [c7b0] | (simp only [i64_w, i32_w]; rw [c7b0]) | skip)
   have H' := zz00 H
   clear H
   go_wp2
   go_meet
   case rel=>exact ⟨_,(y266),H',⟨by first|omega|exact Nat.le_refl _⟩,⟨by (with_reducible repeat (first|apply zz05|apply zz04|apply zz06));exact HO268.out⟩,⟨by (with_reducible repeat (first|refine zz07 ?_ _|refine zz09 ?_|refine zz08 ?_ _));exact BK265.out⟩,⟨by repeat (first|(with_reducible first|exact HB.out|apply zz03|apply zz01|apply zz02|refine zz10 ?_ GE265.out)|exact HB.out)⟩⟩
 case rest =>
  clear HC2
  try clear c1
  try clear p2
  try clear c7
  try clear c7b0
  try clear c7b1
  try clear c8
  try clear c8b0
  try clear c8b1
  try clear p9
  try clear q9
  try clear hx9
  try clear qi9
  try clear hf9
  try clear hcz6_0
  try clear hcz6_1
  try clear hcz6_2
  try clear hfz6_0
  try clear hfz6_1
  try clear hfz6_2
  try clear hx9_0
  try clear p9
  try clear q9
  obtain ⟨kq, x3_1, HA, HJ1, HO_3, BK265, HB⟩ := hcut
  cases kq with
  | zero => exact absurd HA.out (by simp [almanackerref08_lengths.j0])
  | succ kj1 =>
   have H := HA.out
   clear HA
   simp only [almanackerref08_lengths.j0] at H
   by_cases c12 : a0_1 = 0
   ·
    rw [if_pos c12] at H
    have c12b0 : (a0_1 == 0) = true := zz29.mpr c12
    have c12b1 : (a0_1 != 0) = false := zz26.mpr c12
    clear c12
    by_cases c13 : 2 < (x3_1.length : Int)
    ·
     rw [if_pos c13] at H
     have c13b0 : decide (2 < (x3_1.length : Int)) = true := decide_eq_true c13
     have c13b1 : decide (2 < x3_1.length) = true := decide_eq_true (by omega)
     clear c13
     obtain ⟨y270, hy270⟩ : ∃ y_ : List Int, y_ = (x3_1.set (2 : Int).toNat 29) := ⟨_, rfl⟩
     replace H : (if a0_2 = true then (if y270.length < 17592186044416 then ((some (y270 ++ [30] : List Int)).bind fun y271=>((some (([29,30,29,30,29,30,29] : List Int) : List Int)).bind fun y274=>(if y271.length + y274.length < 17592186044416 then (some (y271 ++ y274)) else (none)))) else (none)) else ((some (([29,30,29,30,29,30,29] : List Int) : List Int)).bind fun y280=>(if y270.length + y280.length < 17592186044416 then (some (y270 ++ y280)) else (none)))) = some r:=by first|(rw [hy270];with_reducible exact H)|(have H2_:=(Option.bind_some _ _).symm.trans H;rw [hy270];with_reducible exact H2_)|(have H2_:=(Option.bind_some _ _).symm.trans H;with_reducible exact H2_)|with_reducible exact H|(rw [hy270];exact H)|exact H
     have Ny270 := zz00 hy270
     clear hy270
     by_cases c15 : a0_2 = true
     ·
      subst c15
      have H1 : (if y270.length < 17592186044416 then ((some (y270 ++ [30] : List Int)).bind fun y271=>((some (([29,30,29,30,29,30,29] : List Int) : List Int)).bind fun y274=>(if y271.length + y274.length < 17592186044416 then (some (y271 ++ y274)) else (none)))) else (none)) = some r:=by rw [if_pos rfl] at H;exact H
      clear H
      have H := H1
      clear H1
      by_cases c16 : y270.length < 17592186044416
      ·
       rw [if_pos c16] at H
       have LMc16 := zz00 c16
       clear c16
       obtain ⟨y271, hy271⟩ : ∃ y_ : List Int, y_ = (y270 ++ [30]) := ⟨_, rfl⟩
       replace H : ((some (([29,30,29,30,29,30,29] : List Int) : List Int)).bind fun y274=>(if y271.length + y274.length < 17592186044416 then (some (y271 ++ y274)) else (none))) = some r:=by first|(rw [hy271];with_reducible exact H)|(have H2_:=(Option.bind_some _ _).symm.trans H;rw [hy271];with_reducible exact H2_)|(have H2_:=(Option.bind_some _ _).symm.trans H;with_reducible exact H2_)|with_reducible exact H|(rw [hy271];exact H)|exact H
       have Ny271 := zz00 hy271
       clear hy271
       obtain ⟨y274, hy274⟩ : ∃ y_ : List Int, y_ = (([29, 30, 29, 30, 29, 30, 29] : List Int)) := ⟨_, rfl⟩
       replace H : (if y271.length + y274.length < 17592186044416 then (some (y271 ++ y274)) else (none)) = some r:=by first|(rw [hy274];with_reducible exact H)|(have H2_:=(Option.bind_some _ _).symm.trans H;rw [hy274];with_reducible exact H2_)|(have H2_:=(Option.bind_some _ _).symm.trans H;with_reducible exact H2_)|with_reducible exact H|(rw [hy274];exact H)|exact H
       have Ny274 := zz00 hy274
       clear hy274
       by_cases c17 : y271.length + y274.length < 17592186044416
       ·
        rw [if_pos c17] at H
        have LMc17 := zz00 c17
        clear c17
        obtain ⟨y277, hy277⟩ : ∃ y_ : List Int, y_ = (y271 ++ y274) := ⟨_, rfl⟩
        replace H : (some y277) = some r:=by first|(rw [hy277];with_reducible exact H)|(have H2_:=(Option.bind_some _ _).symm.trans H;rw [hy277];with_reducible exact H2_)|(have H2_:=(Option.bind_some _ _).symm.trans H;with_reducible exact H2_)|with_reducible exact H|(rw [hy277];exact H)|exact H
        have Ny277 := zz00 hy277
        clear hy277
        obtain rfl := Option.some.inj H
        have hcz18_0 : wc.cell? ⟨gb265, 0, none⟩ = some (.int .i64 a0_0) := (zz18 BK265.out 0).trans rfl
        have hcz18_1 : wc.cell? ⟨gb265, 1, none⟩ = some (.int .i64 a0_1) := (zz18 BK265.out 1).trans rfl
        have hcz18_2 : wc.cell? ⟨gb265, 2, none⟩ = some (.bool true) := (zz18 BK265.out 2).trans rfl
        have hfz18_0 := zz17 BK265.out 0
        have hfz18_1 := zz17 BK265.out 1
        have hfz18_2 := zz17 BK265.out 2
        have p14 : 0 ≤ (2 : Int) := (by omega)
        have q14 : (2 : Int) < ((x3_1.length : Int) : Int) := zz31 (by first | (with_reducible assumption) | assumption)
        have qi14 : (2 < x3_1.length) = True := eq_true (by omega)
        obtain ⟨go14, co14, eo14, gb14, gl14, cl14, HG14⟩ := Kd.R_form HO_3.out (by omega)
        (first | cases eo14 | (injection eo14 with ea_ en_ ec_; (first | subst ea_ | (injection ea_ with ea_; subst ea_)); subst ec_; clear en_))
        have GB14 := zz00 gb14
        have GG14 := zz00 HG14
        clear gb14 gl14 HG14
        obtain ⟨hx14_0, hf14_0⟩ := Kd.R_celln 0 HO_3.out (2 : Int) p14 q14
        (try rw [show ((2 : Int)).toNat = 2 from rfl] at hx14_0)
        (try simp only [Nat.reduceMul, Nat.zero_mul, Nat.zero_add, Nat.reduceAdd] at hx14_0)
        (try rw [show ((2 : Int)).toNat = 2 from rfl] at hf14_0)
        (try simp only [Nat.reduceMul, Nat.zero_mul, Nat.zero_add, Nat.reduceAdd] at hf14_0)
        replace p14 := eq_true p14
        replace q14 := eq_true q14
        have HP19 := Kd.R_putg HO_3.out (2 : Int) 29
        go_wp2_with (first|((with_reducible refine gate_store (t:=3) (p:=14) rfl ?_);refine store_event (t:=3) (p:=14) (v:=?vo_w20) (w1:=(wc.setCell ⟨go14,(2 : Int).toNat,none⟩ (.int .i64 29))) ?hg ?ho ?hn ?hr ?_;(case ho=>rfl);(case hg=>rfl);(case hn=>rfl);(case hr=>first|(go_simp;done)|(go_simp;rfl));intro w20 hw;have hg : wc.grownBy w20 (some go14):=(by rw [hw];exact HP19.2);have hp_ : Kd.R (Kd.int .i64) 3 w20 w.heap.size (fun _=>True) (.slice (some ⟨go14,0,none⟩) x3_1.length co14) y270:=(by rw [hw,Ny270.out];exact HP19.1);clear HP19;have n0_:=zz00 (hp_);have n1_:=zz00 (blk_grown (g:=gb265) (o:=.cells #[.int .i64 a0_0,.int .i64 a0_1,.bool true] 93 (0,0)) (by (with_reducible repeat (first|refine zz07 ?_ _|refine zz09 ?_|refine zz08 ?_ _));exact BK265.out) hg (Kd.R_ne HO_3.out BK265.out (by decide)));have n2_:=zz00 ((by rw [hw];exact zz10 (HB.out) GB14.out : Below w.heap.size w w20));clear HO_3;clear BK265;clear HB;have HO_3:=n0_;have BK265:=n1_;have HB:=n2_;clear n0_ n1_ n2_;clear hg hw hp_;have hcz21_0 : w20.cell? ⟨gb265,0,none⟩ = some (.int .i64 a0_0):=(zz18 BK265.out 0).trans rfl;have hcz21_1 : w20.cell? ⟨gb265,1,none⟩ = some (.int .i64 a0_1):=(zz18 BK265.out 1).trans rfl;have hcz21_2 : w20.cell? ⟨gb265,2,none⟩ = some (.bool true):=(zz18 BK265.out 2).trans rfl;have hfz21_0:=zz17 BK265.out 0;have hfz21_1:=zz17 BK265.out 1;have hfz21_2:=zz17 BK265.out 2)|((with_reducible refine gate_builtin (b:=.append) (xs:=#[.tmp 17,.tmp 18]) rfl ?_);at_builtin;refine Kd.R_append (Kd.int .i64) (w0:=w) w.heap.size rfl (.tmp 17) (.tmp 18) 155 3 (.int .i64 0) 8 rfl Tryz.underlying155 info3 rfl (by decide) (by omega) (.slice (some ⟨go14,0,none⟩) x3_1.length co14) y270 30 [.int .i64 30] (fun _=>True) (fun _=>False) rfl rfl ?aP (fun _ hk=>hk.elim) ?aF ?aO ?aB ?aS ?aL ?_;(case aP=>exact rfl);(case aB=>exact (by repeat (first|(with_reducible first|exact HB.out|apply zz03|apply zz01|apply zz02|refine zz10 ?_ GE265.out)|exact HB.out)));(case aF=>exact (fun _ _=>trivial));(case aO=>exact (by (with_reducible repeat (first|apply zz05|apply zz04|apply zz06));exact HO_3.out));(case aS=>exact (zz22 (by repeat (first|(with_reducible first|exact HB.out|apply zz03|apply zz01|apply zz02|refine zz10 ?_ GE265.out)|exact HB.out))));(case aL=>have:=LMc16.out;omega);intro v272 w22 ho hb hg hat;rw [← Ny271.out] at ho;have n0_:=zz00 (blk_grown (g:=gb265) (o:=.cells #[.int .i64 a0_0,.int .i64 a0_1,.bool true] 93 (0,0)) (by (with_reducible repeat (first|refine zz07 ?_ _|refine zz09 ?_|refine zz08 ?_ _));exact BK265.out) hg (Kd.R_ne HO_3.out BK265.out (by decide)));have n1_:=zz00 (hb);have n2_:=zz00 (ho);clear BK265;clear HB;clear HO_3;have BK265:=n0_;have HB:=n1_;have HO273:=n2_;clear n0_ n1_ n2_;clear ho hb hg hat)|((with_reducible refine zz24 (N:=21) rfl ?_);refine Kd.R_lit (Kd.int .i64) _ 3 ?hg (N:=21) ?hd (xs:=([29,30,29,30,29,30,29] : List Int)) (inner:=[.int .i64 29,.int .i64 30,.int .i64 29,.int .i64 30,.int .i64 29,.int .i64 30,.int .i64 29]) (ok:=fun _=>True) (okp:=fun _=>True) ?hr ?hp (fun _ hk=>hk) trivial (Below.refl _ _) (Nat.le_refl _) (by simp) ?_;(case hd=>rfl);(case hg=>rfl);(case hr=>first|(go_simp;done)|(go_simp;rfl));(case hp=>exact (Reps.one (show Kd.M (Kd.int .i64) _ _ _ 29 [.int .i64 29] from rfl) (Reps.one (show Kd.M (Kd.int .i64) _ _ _ 30 [.int .i64 30] from rfl) (Reps.one (show Kd.M (Kd.int .i64) _ _ _ 29 [.int .i64 29] from rfl) (Reps.one (show Kd.M (Kd.int .i64) _ _ _ 30 [.int .i64 30] from rfl) (Reps.one (show Kd.M (Kd.int .i64) _ _ _ 29 [.int .i64 29] from rfl) (Reps.one (show Kd.M (Kd.int .i64) _ _ _ 30 [.int .i64 30] from rfl) (Reps.one (show Kd.M (Kd.int .i64) _ _ _ 29 [.int .i64 29] from rfl) (Reps.none _ _)))))))));intro v275 w23 ho24 hb hg_ hnew_;clear hg_ hnew_;(first|rw [← Ny274.out] at ho24|(simp only [Int.reduceToNat] at ho24;rw [← Ny274.out] at ho24));have n0_:=zz00 (zz20 (by (with_reducible repeat (first|apply zz05|apply zz04|apply zz06));exact HO273.out) (Kd.R_base ho24) hb);have n1_:=zz00 (Kd.R_lower (Kd.R_new' ho24 (Kd.R_lt (by (with_reducible repeat (first|apply zz05|apply zz04|apply zz06));exact HO273.out))) (zz22 (by repeat (first|(with_reducible first|exact HB.out|apply zz03|apply zz01|apply zz02|refine zz10 ?_ GE265.out)|exact HB.out))));have n2_:=zz00 (zz34 (g:=gb265) (o:=.cells #[.int .i64 a0_0,.int .i64 a0_1,.bool true] 93 (0,0)) (by (with_reducible repeat (first|refine zz07 ?_ _|refine zz09 ?_|refine zz08 ?_ _));exact BK265.out) hb);have n3_:=zz00 (zz21 (by repeat (first|(with_reducible first|exact HB.out|apply zz03|apply zz01|apply zz02|refine zz10 ?_ GE265.out)|exact HB.out)) hb);clear HO273;clear BK265;clear HB;have HO273:=n0_;have HO276:=n1_;have BK265:=n2_;have HB:=n3_;clear n0_ n1_ n2_ n3_;clear hb ho24;obtain ⟨Ao26,co26,eo26⟩:=Kd.R_slice HO276.out;subst eo26)|((with_reducible refine gate_builtin (b:=.append) (xs:=#[.tmp 20,.tmp 21]) rfl ?_);at_builtin;refine Kd.R_append_rows (Kd.int .i64) (w0:=w) w.heap.size rfl (.tmp 20) (.tmp 21) 155 3 (.int .i64 0) 8 rfl Tryz.underlying155 info3 rfl (by decide) (by omega) v272 y271 y274 _ _ _ (fun k_=>some k_ ≠ (.slice Ao26 y274.length co26 : Value).ownBlock) (fun _=>False) rfl rfl ?aO ?aR (fun _ _ h=>h) (fun _ h=>h.elim) ?aF ?aB ?aS ?aL ?_;(case aR=>repeat (first|exact (Kd.R_reads' HO276.out).2.2|(with_reducible refine Kd.C_alloc ?_ _)|(with_reducible refine Kd.C_drewN ?_ _)|(with_reducible refine Kd.C_drew ?_)));(case aB=>exact (by repeat (first|(with_reducible first|exact HB.out|apply zz03|apply zz01|apply zz02|refine zz10 ?_ GE265.out)|exact HB.out)));(case aF=>exact (fun k_ hk=>Kd.fresh' (Kd.R_lt (by (with_reducible repeat (first|apply zz05|apply zz04|apply zz06));exact HO276.out)) k_ hk));(case aO=>exact (by (with_reducible repeat (first|apply zz05|apply zz04|apply zz06));exact Kd.R_mono HO273.out (fun _ hk=>hk.2)));(case aS=>exact (zz22 (by repeat (first|(with_reducible first|exact HB.out|apply zz03|apply zz01|apply zz02|refine zz10 ?_ GE265.out)|exact HB.out))));(case aL=>have:=LMc17.out;omega);intro v278 w25 ho hb hg hat;rw [← Ny277.out] at ho;have n0_:=zz00 (blk_grown (g:=gb265) (o:=.cells #[.int .i64 a0_0,.int .i64 a0_1,.bool true] 93 (0,0)) (by (with_reducible repeat (first|refine zz07 ?_ _|refine zz09 ?_|refine zz08 ?_ _));exact BK265.out) hg (Kd.R_ne HO273.out BK265.out (by decide)));have n1_:=zz00 (Kd.R_after (ok:=(fun _=>True)) (by (with_reducible repeat (first|apply zz05|apply zz04|apply zz06));exact HO276.out) hg hat);have n2_:=zz00 (hb);have n3_:=zz00 (ho);clear BK265;clear HO276;clear HB;clear HO273;have BK265:=n0_;have HO276:=n1_;have HB:=n2_;have HO279:=n3_;clear n0_ n1_ n2_ n3_;clear ho hb hg hat))
        go_ret
        exact ⟨_,by first|rfl|(simp [errW_none,errW_some] <;> rfl)|(simp [*,errW_none,errW_some] <;> rfl),by (with_reducible repeat (first|apply zz05|apply zz04|apply zz06));exact Kd.R_mono HO279.out (fun _ hk=>trivial),by repeat (first|(with_reducible first|exact HB.out|apply zz03|apply zz01|apply zz02|refine zz10 ?_ GE265.out)|exact HB.out)⟩
       ·
        rw [if_neg c17] at H
        exact absurd H (by simp)
      ·
       rw [if_neg c16] at H
       exact absurd H (by simp)
     ·
      replace c15 := zz32.mpr c15
      subst c15
      have H1 : ((some (([29,30,29,30,29,30,29] : List Int) : List Int)).bind fun y280=>(if y270.length + y280.length < 17592186044416 then (some (y270 ++ y280)) else (none))) = some r:=by rw [if_neg (show ¬ (false = true) by decide)] at H;exact H
      clear H
      have H := H1
      clear H1
      obtain ⟨y280, hy280⟩ : ∃ y_ : List Int, y_ = (([29, 30, 29, 30, 29, 30, 29] : List Int)) := ⟨_, rfl⟩
      replace H : (if y270.length + y280.length < 17592186044416 then (some (y270 ++ y280)) else (none)) = some r:=by first|(rw [hy280];with_reducible exact H)|(have H2_:=(Option.bind_some _ _).symm.trans H;rw [hy280];with_reducible exact H2_)|(have H2_:=(Option.bind_some _ _).symm.trans H;with_reducible exact H2_)|with_reducible exact H|(rw [hy280];exact H)|exact H
      have Ny280 := zz00 hy280
      clear hy280
      by_cases c27 : y270.length + y280.length < 17592186044416
      ·
       rw [if_pos c27] at H
       have LMc27 := zz00 c27
       clear c27
       obtain ⟨y283, hy283⟩ : ∃ y_ : List Int, y_ = (y270 ++ y280) := ⟨_, rfl⟩
       replace H : (some y283) = some r:=by first|(rw [hy283];with_reducible exact H)|(have H2_:=(Option.bind_some _ _).symm.trans H;rw [hy283];with_reducible exact H2_)|(have H2_:=(Option.bind_some _ _).symm.trans H;with_reducible exact H2_)|with_reducible exact H|(rw [hy283];exact H)|exact H
       have Ny283 := zz00 hy283
       clear hy283
       obtain rfl := Option.some.inj H
       have hcz28_0 : wc.cell? ⟨gb265, 0, none⟩ = some (.int .i64 a0_0) := (zz18 BK265.out 0).trans rfl
       have hcz28_1 : wc.cell? ⟨gb265, 1, none⟩ = some (.int .i64 a0_1) := (zz18 BK265.out 1).trans rfl
       have hcz28_2 : wc.cell? ⟨gb265, 2, none⟩ = some (.bool false) := (zz18 BK265.out 2).trans rfl
       have hfz28_0 := zz17 BK265.out 0
       have hfz28_1 := zz17 BK265.out 1
       have hfz28_2 := zz17 BK265.out 2
       have p14 : 0 ≤ (2 : Int) := (by omega)
       have q14 : (2 : Int) < ((x3_1.length : Int) : Int) := zz31 (by first | (with_reducible assumption) | assumption)
       have qi14 : (2 < x3_1.length) = True := eq_true (by omega)
       obtain ⟨go14, co14, eo14, gb14, gl14, cl14, HG14⟩ := Kd.R_form HO_3.out (by omega)
       (first | cases eo14 | (injection eo14 with ea_ en_ ec_; (first | subst ea_ | (injection ea_ with ea_; subst ea_)); subst ec_; clear en_))
       have GB14 := zz00 gb14
       have GG14 := zz00 HG14
       clear gb14 gl14 HG14
       obtain ⟨hx14_0, hf14_0⟩ := Kd.R_celln 0 HO_3.out (2 : Int) p14 q14
       (try rw [show ((2 : Int)).toNat = 2 from rfl] at hx14_0)
       (try simp only [Nat.reduceMul, Nat.zero_mul, Nat.zero_add, Nat.reduceAdd] at hx14_0)
       (try rw [show ((2 : Int)).toNat = 2 from rfl] at hf14_0)
       (try simp only [Nat.reduceMul, Nat.zero_mul, Nat.zero_add, Nat.reduceAdd] at hf14_0)
       replace p14 := eq_true p14
       replace q14 := eq_true q14
       have HP29 := Kd.R_putg HO_3.out (2 : Int) 29
       go_wp2_with (first|((with_reducible refine gate_store (t:=3) (p:=14) rfl ?_);refine store_event (t:=3) (p:=14) (v:=?vo_w30) (w1:=(wc.setCell ⟨go14,(2 : Int).toNat,none⟩ (.int .i64 29))) ?hg ?ho ?hn ?hr ?_;(case ho=>rfl);(case hg=>rfl);(case hn=>rfl);(case hr=>first|(go_simp;done)|(go_simp;rfl));intro w30 hw;have hg : wc.grownBy w30 (some go14):=(by rw [hw];exact HP29.2);have hp_ : Kd.R (Kd.int .i64) 3 w30 w.heap.size (fun _=>True) (.slice (some ⟨go14,0,none⟩) x3_1.length co14) y270:=(by rw [hw,Ny270.out];exact HP29.1);clear HP29;have n0_:=zz00 (hp_);have n1_:=zz00 (blk_grown (g:=gb265) (o:=.cells #[.int .i64 a0_0,.int .i64 a0_1,.bool false] 93 (0,0)) (by (with_reducible repeat (first|refine zz07 ?_ _|refine zz09 ?_|refine zz08 ?_ _));exact BK265.out) hg (Kd.R_ne HO_3.out BK265.out (by decide)));have n2_:=zz00 ((by rw [hw];exact zz10 (HB.out) GB14.out : Below w.heap.size w w30));clear HO_3;clear BK265;clear HB;have HO_3:=n0_;have BK265:=n1_;have HB:=n2_;clear n0_ n1_ n2_;clear hg hw hp_;have hcz31_0 : w30.cell? ⟨gb265,0,none⟩ = some (.int .i64 a0_0):=(zz18 BK265.out 0).trans rfl;have hcz31_1 : w30.cell? ⟨gb265,1,none⟩ = some (.int .i64 a0_1):=(zz18 BK265.out 1).trans rfl;have hcz31_2 : w30.cell? ⟨gb265,2,none⟩ = some (.bool false):=(zz18 BK265.out 2).trans rfl;have hfz31_0:=zz17 BK265.out 0;have hfz31_1:=zz17 BK265.out 1;have hfz31_2:=zz17 BK265.out 2)|((with_reducible refine zz24 (N:=21) rfl ?_);refine Kd.R_lit (Kd.int .i64) _ 3 ?hg (N:=21) ?hd (xs:=([29,30,29,30,29,30,29] : List Int)) (inner:=[.int .i64 29,.int .i64 30,.int .i64 29,.int .i64 30,.int .i64 29,.int .i64 30,.int .i64 29]) (ok:=fun _=>True) (okp:=fun _=>True) ?hr ?hp (fun _ hk=>hk) trivial (Below.refl _ _) (Nat.le_refl _) (by simp) ?_;(case hd=>rfl);(case hg=>rfl);(case hr=>first|(go_simp;done)|(go_simp;rfl));(case hp=>exact (Reps.one (show Kd.M (Kd.int .i64) _ _ _ 29 [.int .i64 29] from rfl) (Reps.one (show Kd.M (Kd.int .i64) _ _ _ 30 [.int .i64 30] from rfl) (Reps.one (show Kd.M (Kd.int .i64) _ _ _ 29 [.int .i64 29] from rfl) (Reps.one (show Kd.M (Kd.int .i64) _ _ _ 30 [.int .i64 30] from rfl) (Reps.one (show Kd.M (Kd.int .i64) _ _ _ 29 [.int .i64 29] from rfl) (Reps.one (show Kd.M (Kd.int .i64) _ _ _ 30 [.int .i64 30] from rfl) (Reps.one (show Kd.M (Kd.int .i64) _ _ _ 29 [.int .i64 29] from rfl) (Reps.none _ _)))))))));intro v281 w32 ho33 hb hg_ hnew_;clear hg_ hnew_;(first|rw [← Ny280.out] at ho33|(simp only [Int.reduceToNat] at ho33;rw [← Ny280.out] at ho33));have n0_:=zz00 (zz20 (by (with_reducible repeat (first|apply zz05|apply zz04|apply zz06));exact HO_3.out) (Kd.R_base ho33) hb);have n1_:=zz00 (Kd.R_lower (Kd.R_new' ho33 (Kd.R_lt (by (with_reducible repeat (first|apply zz05|apply zz04|apply zz06));exact HO_3.out))) (zz22 (by repeat (first|(with_reducible first|exact HB.out|apply zz03|apply zz01|apply zz02|refine zz10 ?_ GE265.out)|exact HB.out))));have n2_:=zz00 (zz34 (g:=gb265) (o:=.cells #[.int .i64 a0_0,.int .i64 a0_1,.bool false] 93 (0,0)) (by (with_reducible repeat (first|refine zz07 ?_ _|refine zz09 ?_|refine zz08 ?_ _));exact BK265.out) hb);have n3_:=zz00 (zz21 (by repeat (first|(with_reducible first|exact HB.out|apply zz03|apply zz01|apply zz02|refine zz10 ?_ GE265.out)|exact HB.out)) hb);clear HO_3;clear BK265;clear HB;have HO_3:=n0_;have HO282:=n1_;have BK265:=n2_;have HB:=n3_;clear n0_ n1_ n2_ n3_;clear hb ho33;obtain ⟨Ao35,co35,eo35⟩:=Kd.R_slice HO282.out;subst eo35)|((with_reducible refine gate_builtin (b:=.append) (xs:=#[.tmp 20,.tmp 21]) rfl ?_);at_builtin;refine Kd.R_append_rows (Kd.int .i64) (w0:=w) w.heap.size rfl (.tmp 20) (.tmp 21) 155 3 (.int .i64 0) 8 rfl Tryz.underlying155 info3 rfl (by decide) (by omega) (.slice (some ⟨go14,0,none⟩) x3_1.length co14) y270 y280 _ _ _ (fun k_=>some k_ ≠ (.slice Ao35 y280.length co35 : Value).ownBlock) (fun _=>False) rfl rfl ?aO ?aR (fun _ _ h=>h) (fun _ h=>h.elim) ?aF ?aB ?aS ?aL ?_;(case aR=>repeat (first|exact (Kd.R_reads' HO282.out).2.2|(with_reducible refine Kd.C_alloc ?_ _)|(with_reducible refine Kd.C_drewN ?_ _)|(with_reducible refine Kd.C_drew ?_)));(case aB=>exact (by repeat (first|(with_reducible first|exact HB.out|apply zz03|apply zz01|apply zz02|refine zz10 ?_ GE265.out)|exact HB.out)));(case aF=>exact (fun k_ hk=>Kd.fresh' (Kd.R_lt (by (with_reducible repeat (first|apply zz05|apply zz04|apply zz06));exact HO282.out)) k_ hk));(case aO=>exact (by (with_reducible repeat (first|apply zz05|apply zz04|apply zz06));exact Kd.R_mono HO_3.out (fun _ hk=>hk.2)));(case aS=>exact (zz22 (by repeat (first|(with_reducible first|exact HB.out|apply zz03|apply zz01|apply zz02|refine zz10 ?_ GE265.out)|exact HB.out))));(case aL=>have:=LMc27.out;omega);intro v284 w34 ho hb hg hat;rw [← Ny283.out] at ho;have n0_:=zz00 (blk_grown (g:=gb265) (o:=.cells #[.int .i64 a0_0,.int .i64 a0_1,.bool false] 93 (0,0)) (by (with_reducible repeat (first|refine zz07 ?_ _|refine zz09 ?_|refine zz08 ?_ _));exact BK265.out) hg (Kd.R_ne HO_3.out BK265.out (by decide)));have n1_:=zz00 (Kd.R_after (ok:=(fun _=>True)) (by (with_reducible repeat (first|apply zz05|apply zz04|apply zz06));exact HO282.out) hg hat);have n2_:=zz00 (hb);have n3_:=zz00 (ho);clear BK265;clear HO282;clear HB;clear HO_3;have BK265:=n0_;have HO282:=n1_;have HB:=n2_;have HO285:=n3_;clear n0_ n1_ n2_ n3_;clear ho hb hg hat))
       go_ret
       exact ⟨_,by first|rfl|(simp [errW_none,errW_some] <;> rfl)|(simp [*,errW_none,errW_some] <;> rfl),by (with_reducible repeat (first|apply zz05|apply zz04|apply zz06));exact Kd.R_mono HO285.out (fun _ hk=>trivial),by repeat (first|(with_reducible first|exact HB.out|apply zz03|apply zz01|apply zz02|refine zz10 ?_ GE265.out)|exact HB.out)⟩
      ·
       rw [if_neg c27] at H
       exact absurd H (by simp)
    ·
     rw [if_neg c13] at H
     exact absurd H (by simp)
   ·
    rw [if_neg c12] at H
    have c12b0 : (a0_1 == 0) = false := zz27.mpr c12
    have c12b1 : (a0_1 != 0) = true := zz28.mpr c12
    by_cases c36 : a0_2 = true
    ·
     subst c36
     have H1 : (if x3_1.length < 17592186044416 then ((some (x3_1 ++ [30] : List Int)).bind fun y286=>((some (([29,30,29,30,29,30,29] : List Int) : List Int)).bind fun y289=>(if y286.length + y289.length < 17592186044416 then (some (y286 ++ y289)) else (none)))) else (none)) = some r:=by rw [if_pos rfl] at H;exact H
     clear H
     have H := H1
     clear H1
     by_cases c37 : x3_1.length < 17592186044416
     ·
      rw [if_pos c37] at H
      have LMc37 := zz00 c37
      clear c37
      obtain ⟨y286, hy286⟩ : ∃ y_ : List Int, y_ = (x3_1 ++ [30]) := ⟨_, rfl⟩
      replace H : ((some (([29,30,29,30,29,30,29] : List Int) : List Int)).bind fun y289=>(if y286.length + y289.length < 17592186044416 then (some (y286 ++ y289)) else (none))) = some r:=by first|(rw [hy286];with_reducible exact H)|(have H2_:=(Option.bind_some _ _).symm.trans H;rw [hy286];with_reducible exact H2_)|(have H2_:=(Option.bind_some _ _).symm.trans H;with_reducible exact H2_)|with_reducible exact H|(rw [hy286];exact H)|exact H
      have Ny286 := zz00 hy286
      clear hy286
      obtain ⟨y289, hy289⟩ : ∃ y_ : List Int, y_ = (([29, 30, 29, 30, 29, 30, 29] : List Int)) := ⟨_, rfl⟩
      replace H : (if y286.length + y289.length < 17592186044416 then (some (y286 ++ y289)) else (none)) = some r:=by first|(rw [hy289];with_reducible exact H)|(have H2_:=(Option.bind_some _ _).symm.trans H;rw [hy289];with_reducible exact H2_)|(have H2_:=(Option.bind_some _ _).symm.trans H;with_reducible exact H2_)|with_reducible exact H|(rw [hy289];exact H)|exact H
      have Ny289 := zz00 hy289
      clear hy289
      by_cases c38 : y286.length + y289.length < 17592186044416
      ·
       rw [if_pos c38] at H
       have LMc38 := zz00 c38
       clear c38
       obtain ⟨y292, hy292⟩ : ∃ y_ : List Int, y_ = (y286 ++ y289) := ⟨_, rfl⟩
       replace H : (some y292) = some r:=by first|(rw [hy292];with_reducible exact H)|(have H2_:=(Option.bind_some _ _).symm.trans H;rw [hy292];with_reducible exact H2_)|(have H2_:=(Option.bind_some _ _).symm.trans H;with_reducible exact H2_)|with_reducible exact H|(rw [hy292];exact H)|exact H
       have Ny292 := zz00 hy292
       clear hy292
       obtain rfl := Option.some.inj H
       have hcz39_0 : wc.cell? ⟨gb265, 0, none⟩ = some (.int .i64 a0_0) := (zz18 BK265.out 0).trans rfl
       have hcz39_1 : wc.cell? ⟨gb265, 1, none⟩ = some (.int .i64 a0_1) := (zz18 BK265.out 1).trans rfl
       have hcz39_2 : wc.cell? ⟨gb265, 2, none⟩ = some (.bool true) := (zz18 BK265.out 2).trans rfl
       have hfz39_0 := zz17 BK265.out 0
       have hfz39_1 := zz17 BK265.out 1
       have hfz39_2 := zz17 BK265.out 2
       go_wp2_with (first|((with_reducible refine gate_builtin (b:=.append) (xs:=#[.tmp 17,.tmp 18]) rfl ?_);at_builtin;refine Kd.R_append (Kd.int .i64) (w0:=w) w.heap.size rfl (.tmp 17) (.tmp 18) 155 3 (.int .i64 0) 8 rfl Tryz.underlying155 info3 rfl (by decide) (by omega) v267 x3_1 30 [.int .i64 30] (fun _=>True) (fun _=>False) rfl rfl ?aP (fun _ hk=>hk.elim) ?aF ?aO ?aB ?aS ?aL ?_;(case aP=>exact rfl);(case aB=>exact (by repeat (first|(with_reducible first|exact HB.out|apply zz03|apply zz01|apply zz02|refine zz10 ?_ GE265.out)|exact HB.out)));(case aF=>exact (fun _ _=>trivial));(case aO=>exact (by (with_reducible repeat (first|apply zz05|apply zz04|apply zz06));exact HO_3.out));(case aS=>exact (zz22 (by repeat (first|(with_reducible first|exact HB.out|apply zz03|apply zz01|apply zz02|refine zz10 ?_ GE265.out)|exact HB.out))));(case aL=>have:=LMc37.out;omega);intro v287 w40 ho hb hg hat;rw [← Ny286.out] at ho;have n0_:=zz00 (blk_grown (g:=gb265) (o:=.cells #[.int .i64 a0_0,.int .i64 a0_1,.bool true] 93 (0,0)) (by (with_reducible repeat (first|refine zz07 ?_ _|refine zz09 ?_|refine zz08 ?_ _));exact BK265.out) hg (Kd.R_ne HO_3.out BK265.out (by decide)));have n1_:=zz00 (hb);have n2_:=zz00 (ho);clear BK265;clear HB;clear HO_3;have BK265:=n0_;have HB:=n1_;have HO288:=n2_;clear n0_ n1_ n2_;clear ho hb hg hat)|((with_reducible refine zz24 (N:=21) rfl ?_);refine Kd.R_lit (Kd.int .i64) _ 3 ?hg (N:=21) ?hd (xs:=([29,30,29,30,29,30,29] : List Int)) (inner:=[.int .i64 29,.int .i64 30,.int .i64 29,.int .i64 30,.int .i64 29,.int .i64 30,.int .i64 29]) (ok:=fun _=>True) (okp:=fun _=>True) ?hr ?hp (fun _ hk=>hk) trivial (Below.refl _ _) (Nat.le_refl _) (by simp) ?_;(case hd=>rfl);(case hg=>rfl);(case hr=>first|(go_simp;done)|(go_simp;rfl));(case hp=>exact (Reps.one (show Kd.M (Kd.int .i64) _ _ _ 29 [.int .i64 29] from rfl) (Reps.one (show Kd.M (Kd.int .i64) _ _ _ 30 [.int .i64 30] from rfl) (Reps.one (show Kd.M (Kd.int .i64) _ _ _ 29 [.int .i64 29] from rfl) (Reps.one (show Kd.M (Kd.int .i64) _ _ _ 30 [.int .i64 30] from rfl) (Reps.one (show Kd.M (Kd.int .i64) _ _ _ 29 [.int .i64 29] from rfl) (Reps.one (show Kd.M (Kd.int .i64) _ _ _ 30 [.int .i64 30] from rfl) (Reps.one (show Kd.M (Kd.int .i64) _ _ _ 29 [.int .i64 29] from rfl) (Reps.none _ _)))))))));intro v290 w41 ho42 hb hg_ hnew_;clear hg_ hnew_;(first|rw [← Ny289.out] at ho42|(simp only [Int.reduceToNat] at ho42;rw [← Ny289.out] at ho42));have n0_:=zz00 (zz20 (by (with_reducible repeat (first|apply zz05|apply zz04|apply zz06));exact HO288.out) (Kd.R_base ho42) hb);have n1_:=zz00 (Kd.R_lower (Kd.R_new' ho42 (Kd.R_lt (by (with_reducible repeat (first|apply zz05|apply zz04|apply zz06));exact HO288.out))) (zz22 (by repeat (first|(with_reducible first|exact HB.out|apply zz03|apply zz01|apply zz02|refine zz10 ?_ GE265.out)|exact HB.out))));have n2_:=zz00 (zz34 (g:=gb265) (o:=.cells #[.int .i64 a0_0,.int .i64 a0_1,.bool true] 93 (0,0)) (by (with_reducible repeat (first|refine zz07 ?_ _|refine zz09 ?_|refine zz08 ?_ _));exact BK265.out) hb);have n3_:=zz00 (zz21 (by repeat (first|(with_reducible first|exact HB.out|apply zz03|apply zz01|apply zz02|refine zz10 ?_ GE265.out)|exact HB.out)) hb);clear HO288;clear BK265;clear HB;have HO288:=n0_;have HO291:=n1_;have BK265:=n2_;have HB:=n3_;clear n0_ n1_ n2_ n3_;clear hb ho42;obtain ⟨Ao44,co44,eo44⟩:=Kd.R_slice HO291.out;subst eo44)|((with_reducible refine gate_builtin (b:=.append) (xs:=#[.tmp 20,.tmp 21]) rfl ?_);at_builtin;refine Kd.R_append_rows (Kd.int .i64) (w0:=w) w.heap.size rfl (.tmp 20) (.tmp 21) 155 3 (.int .i64 0) 8 rfl Tryz.underlying155 info3 rfl (by decide) (by omega) v287 y286 y289 _ _ _ (fun k_=>some k_ ≠ (.slice Ao44 y289.length co44 : Value).ownBlock) (fun _=>False) rfl rfl ?aO ?aR (fun _ _ h=>h) (fun _ h=>h.elim) ?aF ?aB ?aS ?aL ?_;(case aR=>repeat (first|exact (Kd.R_reads' HO291.out).2.2|(with_reducible refine Kd.C_alloc ?_ _)|(with_reducible refine Kd.C_drewN ?_ _)|(with_reducible refine Kd.C_drew ?_)));(case aB=>exact (by repeat (first|(with_reducible first|exact HB.out|apply zz03|apply zz01|apply zz02|refine zz10 ?_ GE265.out)|exact HB.out)));(case aF=>exact (fun k_ hk=>Kd.fresh' (Kd.R_lt (by (with_reducible repeat (first|apply zz05|apply zz04|apply zz06));exact HO291.out)) k_ hk));(case aO=>exact (by (with_reducible repeat (first|apply zz05|apply zz04|apply zz06));exact Kd.R_mono HO288.out (fun _ hk=>hk.2)));(case aS=>exact (zz22 (by repeat (first|(with_reducible first|exact HB.out|apply zz03|apply zz01|apply zz02|refine zz10 ?_ GE265.out)|exact HB.out))));(case aL=>have:=LMc38.out;omega);intro v293 w43 ho hb hg hat;rw [← Ny292.out] at ho;have n0_:=zz00 (blk_grown (g:=gb265) (o:=.cells #[.int .i64 a0_0,.int .i64 a0_1,.bool true] 93 (0,0)) (by (with_reducible repeat (first|refine zz07 ?_ _|refine zz09 ?_|refine zz08 ?_ _));exact BK265.out) hg (Kd.R_ne HO288.out BK265.out (by decide)));have n1_:=zz00 (Kd.R_after (ok:=(fun _=>True)) (by (with_reducible repeat (first|apply zz05|apply zz04|apply zz06));exact HO291.out) hg hat);have n2_:=zz00 (hb);have n3_:=zz00 (ho);clear BK265;clear HO291;clear HB;clear HO288;have BK265:=n0_;have HO291:=n1_;have HB:=n2_;have HO294:=n3_;clear n0_ n1_ n2_ n3_;clear ho hb hg hat))
       go_ret
       exact ⟨_,by first|rfl|(simp [errW_none,errW_some] <;> rfl)|(simp [*,errW_none,errW_some] <;> rfl),by (with_reducible repeat (first|apply zz05|apply zz04|apply zz06));exact Kd.R_mono HO294.out (fun _ hk=>trivial),by repeat (first|(with_reducible first|exact HB.out|apply zz03|apply zz01|apply zz02|refine zz10 ?_ GE265.out)|exact HB.out)⟩
      ·
       rw [if_neg c38] at H
       exact absurd H (by simp)
     ·
      rw [if_neg c37] at H
      exact absurd H (by simp)
    ·
     replace c36 := zz32.mpr c36
     subst c36
     have H1 : ((some (([29,30,29,30,29,30,29] : List Int) : List Int)).bind fun y295=>(if x3_1.length + y295.length < 17592186044416 then (some (x3_1 ++ y295)) else (none))) = some r:=by rw [if_neg (show ¬ (false = true) by decide)] at H;exact H
     clear H
     have H := H1
     clear H1
     obtain ⟨y295, hy295⟩ : ∃ y_ : List Int, y_ = (([29, 30, 29, 30, 29, 30, 29] : List Int)) := ⟨_, rfl⟩
     replace H : (if x3_1.length + y295.length < 17592186044416 then (some (x3_1 ++ y295)) else (none)) = some r:=by first|(rw [hy295];with_reducible exact H)|(have H2_:=(Option.bind_some _ _).symm.trans H;rw [hy295];with_reducible exact H2_)|(have H2_:=(Option.bind_some _ _).symm.trans H;with_reducible exact H2_)|with_reducible exact H|(rw [hy295];exact H)|exact H
     have Ny295 := zz00 hy295
     clear hy295
     by_cases c45 : x3_1.length + y295.length < 17592186044416
     ·
      rw [if_pos c45] at H
      have LMc45 := zz00 c45
      clear c45
      obtain ⟨y298, hy298⟩ : ∃ y_ : List Int, y_ = (x3_1 ++ y295) := ⟨_, rfl⟩
      replace H : (some y298) = some r:=by first|(rw [hy298];with_reducible exact H)|(have H2_:=(Option.bind_some _ _).symm.trans H;rw [hy298];with_reducible exact H2_)|(have H2_:=(Option.bind_some _ _).symm.trans H;with_reducible exact H2_)|with_reducible exact H|(rw [hy298];exact H)|exact H
      have Ny298 := zz00 hy298
      clear hy298
      obtain rfl := Option.some.inj H
      have hcz46_0 : wc.cell? ⟨gb265, 0, none⟩ = some (.int .i64 a0_0) := (zz18 BK265.out 0).trans rfl
      have hcz46_1 : wc.cell? ⟨gb265, 1, none⟩ = some (.int .i64 a0_1) := (zz18 BK265.out 1).trans rfl
      have hcz46_2 : wc.cell? ⟨gb265, 2, none⟩ = some (.bool false) := (zz18 BK265.out 2).trans rfl
      have hfz46_0 := zz17 BK265.out 0
      have hfz46_1 := zz17 BK265.out 1
      have hfz46_2 := zz17 BK265.out 2
      go_wp2_with (first|((with_reducible refine zz24 (N:=21) rfl ?_);refine Kd.R_lit (Kd.int .i64) _ 3 ?hg (N:=21) ?hd (xs:=([29,30,29,30,29,30,29] : List Int)) (inner:=[.int .i64 29,.int .i64 30,.int .i64 29,.int .i64 30,.int .i64 29,.int .i64 30,.int .i64 29]) (ok:=fun _=>True) (okp:=fun _=>True) ?hr ?hp (fun _ hk=>hk) trivial (Below.refl _ _) (Nat.le_refl _) (by simp) ?_;(case hd=>rfl);(case hg=>rfl);(case hr=>first|(go_simp;done)|(go_simp;rfl));(case hp=>exact (Reps.one (show Kd.M (Kd.int .i64) _ _ _ 29 [.int .i64 29] from rfl) (Reps.one (show Kd.M (Kd.int .i64) _ _ _ 30 [.int .i64 30] from rfl) (Reps.one (show Kd.M (Kd.int .i64) _ _ _ 29 [.int .i64 29] from rfl) (Reps.one (show Kd.M (Kd.int .i64) _ _ _ 30 [.int .i64 30] from rfl) (Reps.one (show Kd.M (Kd.int .i64) _ _ _ 29 [.int .i64 29] from rfl) (Reps.one (show Kd.M (Kd.int .i64) _ _ _ 30 [.int .i64 30] from rfl) (Reps.one (show Kd.M (Kd.int .i64) _ _ _ 29 [.int .i64 29] from rfl) (Reps.none _ _)))))))));intro v296 w47 ho48 hb hg_ hnew_;clear hg_ hnew_;(first|rw [← Ny295.out] at ho48|(simp only [Int.reduceToNat] at ho48;rw [← Ny295.out] at ho48));have n0_:=zz00 (zz20 (by (with_reducible repeat (first|apply zz05|apply zz04|apply zz06));exact HO_3.out) (Kd.R_base ho48) hb);have n1_:=zz00 (Kd.R_lower (Kd.R_new' ho48 (Kd.R_lt (by (with_reducible repeat (first|apply zz05|apply zz04|apply zz06));exact HO_3.out))) (zz22 (by repeat (first|(with_reducible first|exact HB.out|apply zz03|apply zz01|apply zz02|refine zz10 ?_ GE265.out)|exact HB.out))));have n2_:=zz00 (zz34 (g:=gb265) (o:=.cells #[.int .i64 a0_0,.int .i64 a0_1,.bool false] 93 (0,0)) (by (with_reducible repeat (first|refine zz07 ?_ _|refine zz09 ?_|refine zz08 ?_ _));exact BK265.out) hb);have n3_:=zz00 (zz21 (by repeat (first|(with_reducible first|exact HB.out|apply zz03|apply zz01|apply zz02|refine zz10 ?_ GE265.out)|exact HB.out)) hb);clear HO_3;clear BK265;clear HB;have HO_3:=n0_;have HO297:=n1_;have BK265:=n2_;have HB:=n3_;clear n0_ n1_ n2_ n3_;clear hb ho48;obtain ⟨Ao50,co50,eo50⟩:=Kd.R_slice HO297.out;subst eo50)|((with_reducible refine gate_builtin (b:=.append) (xs:=#[.tmp 20,.tmp 21]) rfl ?_);at_builtin;refine Kd.R_append_rows (Kd.int .i64) (w0:=w) w.heap.size rfl (.tmp 20) (.tmp 21) 155 3 (.int .i64 0) 8 rfl Tryz.underlying155 info3 rfl (by decide) (by omega) v267 x3_1 y295 _ _ _ (fun k_=>some k_ ≠ (.slice Ao50 y295.length co50 : Value).ownBlock) (fun _=>False) rfl rfl ?aO ?aR (fun _ _ h=>h) (fun _ h=>h.elim) ?aF ?aB ?aS ?aL ?_;(case aR=>repeat (first|exact (Kd.R_reads' HO297.out).2.2|(with_reducible refine Kd.C_alloc ?_ _)|(with_reducible refine Kd.C_drewN ?_ _)|(with_reducible refine Kd.C_drew ?_)));(case aB=>exact (by repeat (first|(with_reducible first|exact HB.out|apply zz03|apply zz01|apply zz02|refine zz10 ?_ GE265.out)|exact HB.out)));(case aF=>exact (fun k_ hk=>Kd.fresh' (Kd.R_lt (by (with_reducible repeat (first|apply zz05|apply zz04|apply zz06));exact HO297.out)) k_ hk));(case aO=>exact (by (with_reducible repeat (first|apply zz05|apply zz04|apply zz06));exact Kd.R_mono HO_3.out (fun _ hk=>hk.2)));(case aS=>exact (zz22 (by repeat (first|(with_reducible first|exact HB.out|apply zz03|apply zz01|apply zz02|refine zz10 ?_ GE265.out)|exact HB.out))));(case aL=>have:=LMc45.out;omega);intro v299 w49 ho hb hg hat;rw [← Ny298.out] at ho;have n0_:=zz00 (blk_grown (g:=gb265) (o:=.cells #[.int .i64 a0_0,.int .i64 a0_1,.bool false] 93 (0,0)) (by (with_reducible repeat (first|refine zz07 ?_ _|refine zz09 ?_|refine zz08 ?_ _));exact BK265.out) hg (Kd.R_ne HO_3.out BK265.out (by decide)));have n1_:=zz00 (Kd.R_after (ok:=(fun _=>True)) (by (with_reducible repeat (first|apply zz05|apply zz04|apply zz06));exact HO297.out) hg hat);have n2_:=zz00 (hb);have n3_:=zz00 (ho);clear BK265;clear HO297;clear HB;clear HO_3;have BK265:=n0_;have HO297:=n1_;have HB:=n2_;have HO300:=n3_;clear n0_ n1_ n2_ n3_;clear ho hb hg hat))
      go_ret
      exact ⟨_,by first|rfl|(simp [errW_none,errW_some] <;> rfl)|(simp [*,errW_none,errW_some] <;> rfl),by (with_reducible repeat (first|apply zz05|apply zz04|apply zz06));exact Kd.R_mono HO300.out (fun _ hk=>trivial),by repeat (first|(with_reducible first|exact HB.out|apply zz03|apply zz01|apply zz02|refine zz10 ?_ GE265.out)|exact HB.out)⟩
     ·
      rw [if_neg c45] at H
      exact absurd H (by simp)

def almanackerref07_Type.f (a0 : Int) : Option (Int × Int × Bool × Bool) := if a0 < 1 then (some (0, 0, false, false)) else (if a0 > 14 then (some (0, 0, false, false)) else ((some (([1, 1, 2, 4, 4, 6, 6, 1, 1, 2, 4, 4, 6, 6] : List Int) : List Int)).bind fun y302 => ((some (([0, 2, 1, 1, 2, 0, 2, 0, 2, 1, 0, 2, 0, 2] : List Int) : List Int)).bind fun y305 => (if 0 ≤ (wrap64 (a0 - 1)) then (if (wrap64 (a0 - 1)) < (y302.length : Int) then (if (wrap64 (a0 - 1)) < (y305.length : Int) then (some (rd y302 (wrap64 (a0 - 1)), rd y305 (wrap64 (a0 - 1)), decide (a0 > 7), true)) else (none)) else (none)) else (none)))))
def almanackerref07_Type.T5 : Bool × List (List Nat × List Nat) := (true, [([], []), ([], []), ([1], [1]), ([0, 2], [0, 2]), ([3], [3]), ([], []), ([], []), ([6], [6]), ([5, 7], [5, 7]), ([8], [8]), ([], []), ([10], [10]), ([4, 9, 11], [4, 9, 11]), ([12, 0, 1, 2, 3, 4, 5, 6, 7, 8, 9, 10, 11, 12], [12]), ([13, 0, 1, 2, 3, 4, 5, 6, 7, 8, 9, 10, 11, 12, 13], [])])
def almanackerref07_Type.B5 : List Nat := [0, 0, 2, 7, 15, 0, 0, 64, 224, 480, 0, 1024, 4095, 8191, 16383]
theorem almanackerref07_Type.tab5 : rtab .any (opsOf Tryz.f240 5) = almanackerref07_Type.T5 := by kernel_rfl
theorem almanackerref07_Type.bits5 : waitsOk almanackerref07_Type.T5.2 almanackerref07_Type.B5 = true := by kernel_rfl
set_option maxHeartbeats 8000000 in
set_option maxRecDepth 100000 in
theorem almanackerref07_Type.calls (a0 : Int) (r1 : Int) (r2 : Int) (r3 : Bool) (r4 : Bool) (w : World) (h : almanackerref07_Type.f a0 = some (r1, r2, r3, r4)) :
  Calls Tryz.prog 240 #[.int .i64 a0] w fun e w' => e = .returned (.tuple #[.agg #[.int .i64 r1, .int .i64 r2, .bool r3], .bool r4]) ∧ Below w.heap.size w w' := by
 have hu93 := Tryz.underlying93
 have HB := zz00 (Below.refl w.heap.size w)
 have H : (if a0 < 1 then (some (0,0,false,false)) else (if a0 > 14 then (some (0,0,false,false)) else ((some (([1,1,2,4,4,6,6,1,1,2,4,4,6,6] : List Int) : List Int)).bind fun y302=>((some (([0,2,1,1,2,0,2,0,2,1,0,2,0,2] : List Int) : List Int)).bind fun y305=>(if 0 ≤ (wrap64 (a0 - 1)) then (if (wrap64 (a0 - 1)) < (y302.length : Int) then (if (wrap64 (a0 - 1)) < (y305.length : Int) then (some (rd y302 (wrap64 (a0 - 1)),rd y305 (wrap64 (a0 - 1)),decide (a0 > 7),true)) else (none)) else (none)) else (none)))))) = some (r1,r2,r3,r4):=h
 clear h
 by_cases c2 : a0 < 1
 ·
  rw [if_pos c2] at H
  have c2b0 : decide (a0 < 1) = true := decide_eq_true c2
  clear c2
  simp only [zz15, zz16] at H
  obtain ⟨rfl, rfl, rfl, rfl⟩ := H
  go_enter Tryz.func240, Tryz.ntmps240
  go_wp2_with (first|((with_reducible refine zz24 (N:=2) rfl ?_);refine zz30 ?hg (N:=2) ?hd (cs:=#[.int .i64 0,.int .i64 0,.bool false]) (t:=93) ?hr ?_;(case hd=>rfl);(case hg=>rfl);(case hr=>first|(go_simp;done)|(go_simp;rfl));intro gb301 hg w3 hbox hb;have n0_:=zz00 (zz21 (by repeat (first|(with_reducible first|exact HB.out|apply zz03|apply zz01|apply zz02)|exact HB.out)) hb);have n1_:=zz00 (hbox);have n2_:=zz00 ((by rw [hg];exact (zz22 (by repeat (first|(with_reducible first|exact HB.out|apply zz03|apply zz01|apply zz02)|exact HB.out))) : w.heap.size ≤ gb301));have n3_:=zz00 ((by rw [hg];exact (zz22 (by repeat (first|(with_reducible first|exact HB.out|apply zz03|apply zz01|apply zz02)|exact HB.out))) : w.heap.size ≤ gb301));clear HB;have HB:=n0_;have BK301:=n1_;have GW301:=n2_;have GE301:=n3_;clear n0_ n1_ n2_ n3_;clear hb hbox hg;have hcz4_0 : w3.cell? ⟨gb301,0,none⟩ = some (.int .i64 0):=(zz18 BK301.out 0).trans rfl;have hcz4_1 : w3.cell? ⟨gb301,1,none⟩ = some (.int .i64 0):=(zz18 BK301.out 1).trans rfl;have hcz4_2 : w3.cell? ⟨gb301,2,none⟩ = some (.bool false):=(zz18 BK301.out 2).trans rfl;have hfz4_0:=zz17 BK301.out 0;have hfz4_1:=zz17 BK301.out 1;have hfz4_2:=zz17 BK301.out 2))
  refine bodyPost_ret (results_ct rfl _ _ gb301 93 #[.int .i64 0,.int .i64 0,.bool false] (0,0) _ rfl (by (with_reducible repeat (first|refine zz07 ?_ _|refine zz09 ?_|refine zz08 ?_ _));refine zz35 (cs:=#[.int .i64 0,.int .i64 0,.bool false]) ?_ 2 _ rfl;(with_reducible repeat (first|refine zz07 ?_ _|refine zz09 ?_|refine zz08 ?_ _));refine zz35 (cs:=#[.int .i64 0,.int .i64 0,.bool false]) ?_ 1 _ rfl;(with_reducible repeat (first|refine zz07 ?_ _|refine zz09 ?_|refine zz08 ?_ _));refine zz35 (cs:=#[.int .i64 0,.int .i64 0,.bool false]) ?_ 0 _ rfl;(with_reducible repeat (first|refine zz07 ?_ _|refine zz09 ?_|refine zz08 ?_ _));exact BK301.out) Tryz.underlying93 rfl (by kernel_rfl)) rfl ?_
  exact ⟨by first|rfl|(simp [errW_none,errW_some] <;> rfl)|(simp [*,errW_none,errW_some] <;> rfl),by repeat (first|(with_reducible first|exact HB.out|apply zz03|apply zz01|apply zz02|refine zz10 ?_ GE301.out)|exact HB.out)⟩
 ·
  rw [if_neg c2] at H
  have c2b0 : decide (a0 < 1) = false := decide_eq_false c2
  clear c2
  by_cases c5 : a0 > 14
  ·
   rw [if_pos c5] at H
   have c5b0 : decide (14 < a0) = true := decide_eq_true c5
   clear c5
   simp only [zz15, zz16] at H
   obtain ⟨rfl, rfl, rfl, rfl⟩ := H
   go_enter Tryz.func240, Tryz.ntmps240
   go_wp2_with (first|((with_reducible refine zz24 (N:=2) rfl ?_);refine zz30 ?hg (N:=2) ?hd (cs:=#[.int .i64 0,.int .i64 0,.bool false]) (t:=93) ?hr ?_;(case hd=>rfl);(case hg=>rfl);(case hr=>first|(go_simp;done)|(go_simp;rfl));intro gb301 hg w6 hbox hb;have n0_:=zz00 (zz21 (by repeat (first|(with_reducible first|exact HB.out|apply zz03|apply zz01|apply zz02)|exact HB.out)) hb);have n1_:=zz00 (hbox);have n2_:=zz00 ((by rw [hg];exact (zz22 (by repeat (first|(with_reducible first|exact HB.out|apply zz03|apply zz01|apply zz02)|exact HB.out))) : w.heap.size ≤ gb301));have n3_:=zz00 ((by rw [hg];exact (zz22 (by repeat (first|(with_reducible first|exact HB.out|apply zz03|apply zz01|apply zz02)|exact HB.out))) : w.heap.size ≤ gb301));clear HB;have HB:=n0_;have BK301:=n1_;have GW301:=n2_;have GE301:=n3_;clear n0_ n1_ n2_ n3_;clear hb hbox hg;have hcz7_0 : w6.cell? ⟨gb301,0,none⟩ = some (.int .i64 0):=(zz18 BK301.out 0).trans rfl;have hcz7_1 : w6.cell? ⟨gb301,1,none⟩ = some (.int .i64 0):=(zz18 BK301.out 1).trans rfl;have hcz7_2 : w6.cell? ⟨gb301,2,none⟩ = some (.bool false):=(zz18 BK301.out 2).trans rfl;have hfz7_0:=zz17 BK301.out 0;have hfz7_1:=zz17 BK301.out 1;have hfz7_2:=zz17 BK301.out 2))
   refine bodyPost_ret (results_ct rfl _ _ gb301 93 #[.int .i64 0,.int .i64 0,.bool false] (0,0) _ rfl (by (with_reducible repeat (first|refine zz07 ?_ _|refine zz09 ?_|refine zz08 ?_ _));refine zz35 (cs:=#[.int .i64 0,.int .i64 0,.bool false]) ?_ 2 _ rfl;(with_reducible repeat (first|refine zz07 ?_ _|refine zz09 ?_|refine zz08 ?_ _));refine zz35 (cs:=#[.int .i64 0,.int .i64 0,.bool false]) ?_ 1 _ rfl;(with_reducible repeat (first|refine zz07 ?_ _|refine zz09 ?_|refine zz08 ?_ _));refine zz35 (cs:=#[.int .i64 0,.int .i64 0,.bool false]) ?_ 0 _ rfl;(with_reducible repeat (first|refine zz07 ?_ _|refine zz09 ?_|refine zz08 ?_ _));exact BK301.out) Tryz.underlying93 rfl (by kernel_rfl)) rfl ?_
   exact ⟨by first|rfl|(simp [errW_none,errW_some] <;> rfl)|(simp [*,errW_none,errW_some] <;> rfl),by repeat (first|(with_reducible first|exact HB.out|apply zz03|apply zz01|apply zz02|refine zz10 ?_ GE301.out)|exact HB.out)⟩
  ·
   rw [if_neg c5] at H
   have c5b0 : decide (14 < a0) = false := decide_eq_false c5
   clear c5
   obtain ⟨y302, hy302⟩ : ∃ y_ : List Int, y_ = (([1, 1, 2, 4, 4, 6, 6, 1, 1, 2, 4, 4, 6, 6] : List Int)) := ⟨_, rfl⟩
   replace H : ((some (([0,2,1,1,2,0,2,0,2,1,0,2,0,2] : List Int) : List Int)).bind fun y305=>(if 0 ≤ (wrap64 (a0 - 1)) then (if (wrap64 (a0 - 1)) < (y302.length : Int) then (if (wrap64 (a0 - 1)) < (y305.length : Int) then (some (rd y302 (wrap64 (a0 - 1)),rd y305 (wrap64 (a0 - 1)),decide (a0 > 7),true)) else (none)) else (none)) else (none))) = some (r1,r2,r3,r4):=by first|(rw [hy302];with_reducible exact H)|(have H2_:=(Option.bind_some _ _).symm.trans H;rw [hy302];with_reducible exact H2_)|(have H2_:=(Option.bind_some _ _).symm.trans H;with_reducible exact H2_)|with_reducible exact H|(rw [hy302];exact H)|exact H
   have Ny302 := zz00 hy302
   clear hy302
   obtain ⟨y305, hy305⟩ : ∃ y_ : List Int, y_ = (([0, 2, 1, 1, 2, 0, 2, 0, 2, 1, 0, 2, 0, 2] : List Int)) := ⟨_, rfl⟩
   replace H : (if 0 ≤ (wrap64 (a0 - 1)) then (if (wrap64 (a0 - 1)) < (y302.length : Int) then (if (wrap64 (a0 - 1)) < (y305.length : Int) then (some (rd y302 (wrap64 (a0 - 1)),rd y305 (wrap64 (a0 - 1)),decide (a0 > 7),true)) else (none)) else (none)) else (none)) = some (r1,r2,r3,r4):=by first|(rw [hy305];with_reducible exact H)|(have H2_:=(Option.bind_some _ _).symm.trans H;rw [hy305];with_reducible exact H2_)|(have H2_:=(Option.bind_some _ _).symm.trans H;with_reducible exact H2_)|with_reducible exact H|(rw [hy305];exact H)|exact H
   have Ny305 := zz00 hy305
   clear hy305
   obtain ⟨ji8, hji8⟩ : ∃ j_ : Int, (wrap64 (a0 - 1)) = j_ := ⟨_, rfl⟩
   replace H : (if 0 ≤ (ji8) then (if (ji8) < (y302.length : Int) then (if (ji8) < (y305.length : Int) then (some (rd y302 (ji8),rd y305 (ji8),decide (a0 > 7),true)) else (none)) else (none)) else (none)) = some (r1,r2,r3,r4):=by first|(rw [hji8] at H;exact H)|(simp only [hji8] at H ⊢;exact H)
   have hji8w : (IntKind.i64.wrap (a0 - 1)) = ji8 := (i64_w _).trans hji8
   by_cases c9 : 0 ≤ (ji8)
   ·
    rw [if_pos c9] at H
    have c9b0 : decide (0 ≤ (ji8)) = true := decide_eq_true c9
    clear c9
    by_cases c10 : (ji8) < (y302.length : Int)
    ·
     rw [if_pos c10] at H
     have c10b0 : decide ((ji8) < (y302.length : Int)) = true := decide_eq_true c10
     clear c10
     by_cases c11 : (ji8) < (y305.length : Int)
     ·
      rw [if_pos c11] at H
      have c11b0 : decide ((ji8) < (y305.length : Int)) = true := decide_eq_true c11
      clear c11
      simp only [zz15, zz16] at H
      obtain ⟨rfl, rfl, rfl, rfl⟩ := H
      go_enter Tryz.func240, Tryz.ntmps240
      try go_wp2_with (first|((with_reducible refine zz24 (N:=2) rfl ?_);refine zz30 ?hg (N:=2) ?hd (cs:=#[.int .i64 0,.int .i64 0,.bool false]) (t:=93) ?hr ?_;(case hd=>rfl);(case hg=>rfl);(case hr=>first|(go_simp;done)|(go_simp;rfl));intro gb301 hg w12 hbox hb;have n0_:=zz00 (zz21 (by repeat (first|(with_reducible first|exact HB.out|apply zz03|apply zz01|apply zz02)|exact HB.out)) hb);have n1_:=zz00 (hbox);have n2_:=zz00 ((by rw [hg];exact (zz22 (by repeat (first|(with_reducible first|exact HB.out|apply zz03|apply zz01|apply zz02)|exact HB.out))) : w.heap.size ≤ gb301));have n3_:=zz00 ((by rw [hg];exact (zz22 (by repeat (first|(with_reducible first|exact HB.out|apply zz03|apply zz01|apply zz02)|exact HB.out))) : w.heap.size ≤ gb301));clear HB;have HB:=n0_;have BK301:=n1_;have GW301:=n2_;have GE301:=n3_;clear n0_ n1_ n2_ n3_;clear hb hbox hg)|((with_reducible refine zz24 (N:=13) rfl ?_);refine Kd.R_lit (Kd.int .i64) _ 3 ?hg (N:=13) ?hd (xs:=([1,1,2,4,4,6,6,1,1,2,4,4,6,6] : List Int)) (inner:=[.int .i64 1,.int .i64 1,.int .i64 2,.int .i64 4,.int .i64 4,.int .i64 6,.int .i64 6,.int .i64 1,.int .i64 1,.int .i64 2,.int .i64 4,.int .i64 4,.int .i64 6,.int .i64 6]) (ok:=fun _=>True) (okp:=fun _=>True) ?hr ?hp (fun _ hk=>hk) trivial (Below.refl _ _) (Nat.le_refl _) (by simp) ?_;(case hd=>rfl);(case hg=>rfl);(case hr=>first|(go_simp;done)|(go_simp;rfl));(case hp=>exact (Reps.one (show Kd.M (Kd.int .i64) _ _ _ 1 [.int .i64 1] from rfl) (Reps.one (show Kd.M (Kd.int .i64) _ _ _ 1 [.int .i64 1] from rfl) (Reps.one (show Kd.M (Kd.int .i64) _ _ _ 2 [.int .i64 2] from rfl) (Reps.one (show Kd.M (Kd.int .i64) _ _ _ 4 [.int .i64 4] from rfl) (Reps.one (show Kd.M (Kd.int .i64) _ _ _ 4 [.int .i64 4] from rfl) (Reps.one (show Kd.M (Kd.int .i64) _ _ _ 6 [.int .i64 6] from rfl) (Reps.one (show Kd.M (Kd.int .i64) _ _ _ 6 [.int .i64 6] from rfl) (Reps.one (show Kd.M (Kd.int .i64) _ _ _ 1 [.int .i64 1] from rfl) (Reps.one (show Kd.M (Kd.int .i64) _ _ _ 1 [.int .i64 1] from rfl) (Reps.one (show Kd.M (Kd.int .i64) _ _ _ 2 [.int .i64 2] from rfl) (Reps.one (show Kd.M (Kd.int .i64) _ _ _ 4 [.int .i64 4] from rfl) (Reps.one (show Kd.M (Kd.int .i64) _ _ _ 4 [.int .i64 4] from rfl) (Reps.one (show Kd.M (Kd.int .i64) _ _ _ 6 [.int .i64 6] from rfl) (Reps.one (show Kd.M (Kd.int .i64) _ _ _ 6 [.int .i64 6] from rfl) (Reps.none _ _))))))))))))))));intro v303 w13 ho14 hb hg_ hnew_;clear hg_ hnew_;(first|rw [← Ny302.out] at ho14|(simp only [Int.reduceToNat] at ho14;rw [← Ny302.out] at ho14));have n0_:=zz00 (Kd.R_lower ho14 (zz22 (by repeat (first|(with_reducible first|exact HB.out|apply zz03|apply zz01|apply zz02|refine zz10 ?_ GE301.out)|exact HB.out))));have n1_:=zz00 (zz34 (g:=gb301) (o:=.cells #[.int .i64 0,.int .i64 0,.bool false] 93 (0,0)) (by (with_reducible repeat (first|refine zz07 ?_ _|refine zz09 ?_|refine zz08 ?_ _));exact BK301.out) hb);have n2_:=zz00 (zz21 (by repeat (first|(with_reducible first|exact HB.out|apply zz03|apply zz01|apply zz02|refine zz10 ?_ GE301.out)|exact HB.out)) hb);clear BK301;clear HB;have HO304:=n0_;have BK301:=n1_;have HB:=n2_;clear n0_ n1_ n2_;clear hb ho14)|((with_reducible refine zz24 (N:=14) rfl ?_);refine Kd.R_lit (Kd.int .i64) _ 3 ?hg (N:=14) ?hd (xs:=([0,2,1,1,2,0,2,0,2,1,0,2,0,2] : List Int)) (inner:=[.int .i64 0,.int .i64 2,.int .i64 1,.int .i64 1,.int .i64 2,.int .i64 0,.int .i64 2,.int .i64 0,.int .i64 2,.int .i64 1,.int .i64 0,.int .i64 2,.int .i64 0,.int .i64 2]) (ok:=fun _=>True) (okp:=fun _=>True) ?hr ?hp (fun _ hk=>hk) trivial (Below.refl _ _) (Nat.le_refl _) (by simp) ?_;(case hd=>rfl);(case hg=>rfl);(case hr=>first|(go_simp;done)|(go_simp;rfl));(case hp=>exact (Reps.one (show Kd.M (Kd.int .i64) _ _ _ 0 [.int .i64 0] from rfl) (Reps.one (show Kd.M (Kd.int .i64) _ _ _ 2 [.int .i64 2] from rfl) (Reps.one (show Kd.M (Kd.int .i64) _ _ _ 1 [.int .i64 1] from rfl) (Reps.one (show Kd.M (Kd.int .i64) _ _ _ 1 [.int .i64 1] from rfl) (Reps.one (show Kd.M (Kd.int .i64) _ _ _ 2 [.int .i64 2] from rfl) (Reps.one (show Kd.M (Kd.int .i64) _ _ _ 0 [.int .i64 0] from rfl) (Reps.one (show Kd.M (Kd.int .i64) _ _ _ 2 [.int .i64 2] from rfl) (Reps.one (show Kd.M (Kd.int .i64) _ _ _ 0 [.int .i64 0] from rfl) (Reps.one (show Kd.M (Kd.int .i64) _ _ _ 2 [.int .i64 2] from rfl) (Reps.one (show Kd.M (Kd.int .i64) _ _ _ 1 [.int .i64 1] from rfl) (Reps.one (show Kd.M (Kd.int .i64) _ _ _ 0 [.int .i64 0] from rfl) (Reps.one (show Kd.M (Kd.int .i64) _ _ _ 2 [.int .i64 2] from rfl) (Reps.one (show Kd.M (Kd.int .i64) _ _ _ 0 [.int .i64 0] from rfl) (Reps.one (show Kd.M (Kd.int .i64) _ _ _ 2 [.int .i64 2] from rfl) (Reps.none _ _))))))))))))))));intro v306 w15 ho16 hb hg_ hnew_;clear hg_ hnew_;(first|rw [← Ny305.out] at ho16|(simp only [Int.reduceToNat] at ho16;rw [← Ny305.out] at ho16));have n0_:=zz00 (zz20 (by (with_reducible repeat (first|apply zz05|apply zz04|apply zz06));exact HO304.out) (Kd.R_base ho16) hb);have n1_:=zz00 (Kd.R_lower (Kd.R_new' ho16 (Kd.R_lt (by (with_reducible repeat (first|apply zz05|apply zz04|apply zz06));exact HO304.out))) (zz22 (by repeat (first|(with_reducible first|exact HB.out|apply zz03|apply zz01|apply zz02|refine zz10 ?_ GE301.out)|exact HB.out))));have n2_:=zz00 (zz34 (g:=gb301) (o:=.cells #[.int .i64 0,.int .i64 0,.bool false] 93 (0,0)) (by (with_reducible repeat (first|refine zz07 ?_ _|refine zz09 ?_|refine zz08 ?_ _));exact BK301.out) hb);have n3_:=zz00 (zz21 (by repeat (first|(with_reducible first|exact HB.out|apply zz03|apply zz01|apply zz02|refine zz10 ?_ GE301.out)|exact HB.out)) hb);clear HO304;clear BK301;clear HB;have HO304:=n0_;have HO307:=n1_;have BK301:=n2_;have HB:=n3_;clear n0_ n1_ n2_ n3_;clear hb ho16))
      have n0_ := zz00 (zz06 HO304.out)
      have n1_ := zz00 (zz06 HO307.out)
      have n2_ := zz00 (zz09 BK301.out)
      have n3_ := zz00 (zz02 HB.out)
      clear HO304
      clear HO307
      clear BK301
      clear HB
      have HO304 := n0_
      have HO307 := n1_
      have BK301 := n2_
      have HB := n3_
      clear n0_ n1_ n2_ n3_
      obtain ⟨Ao18, co18, eo18⟩ := Kd.R_slice HO304.out
      (first | subst eo18 | (injection eo18 with f1_ f2_ f3_; have f4_ := f1_.symm; have f5_ := f3_.symm; clear f1_ f2_ f3_; subst f4_; subst f5_))
      have p308 : 0 ≤ ((ji8) : Int) := zz31 (by first | (with_reducible assumption) | assumption)
      have q308 : (ji8) < (y302.length : Int) := zz31 (by first | (with_reducible assumption) | assumption)
      obtain ⟨ad308, e308, hx308_0⟩ := Kd.at_int (Kd.R_reads' HO304.out).2.2 (ji8) p308 q308
      cases e308
      replace p308 := eq_true p308
      replace q308 := eq_true q308
      obtain ⟨Ao19, co19, eo19⟩ := Kd.R_slice HO307.out
      (first | subst eo19 | (injection eo19 with f1_ f2_ f3_; have f4_ := f1_.symm; have f5_ := f3_.symm; clear f1_ f2_ f3_; subst f4_; subst f5_))
      have p309 : 0 ≤ ((ji8) : Int) := zz31 (by first | (with_reducible assumption) | assumption)
      have q309 : (ji8) < (y305.length : Int) := zz31 (by first | (with_reducible assumption) | assumption)
      obtain ⟨ad309, e309, hx309_0⟩ := Kd.at_int (Kd.R_reads' HO307.out).2.2 (ji8) p309 q309
      cases e309
      replace p309 := eq_true p309
      replace q309 := eq_true q309
      refine start_ (n:=15) (S:=fun w'=>w'.cell? (ad308.add ((ji8)).toNat) = some (.int .i64 (rd y302 (ji8))) ∧ w'.cell? (ad309.add ((ji8)).toNat) = some (.int .i64 (rd y305 (ji8)))) (ds:=[]) #[false,false,false,false,false,false,false,false,false,false,false,false,false,false,false] (by kernel_rfl) rfl rfl ⟨hx308_0,hx309_0⟩ (fun hHeld=>?_);refine with_tabW almanackerref07_Type.tab5 almanackerref07_Type.bits5 (fun HT_ HW_=>?_)
      generalize w15.drew = w17 at HO304 HO307 BK301 HB hx308_0 hx309_0 hHeld ⊢
      refine pure_ (i:=0) (N:=some 15) (v:=?_) (a':=?_) #[true,false,false,false,false,false,false,false,false,false,false,false,false,false,false] rfl rfl (any_of HT_.out (by kernel_rfl)) (fun _ _ _ h=>h) (Or.inl ⟨by rfl,?_⟩) ?_ ?_
      rotate_left
      ·
       intro w'
       go_simp
       with_reducible rfl
      rotate_left
      ·
       simp only [Act.put, zz11, zz12, zz13, i64_w, i32_w]
       rfl
      refine pure_ (i:=1) (N:=some 16) (v:=?_) (a':=?_) #[true,true,false,false,false,false,false,false,false,false,false,false,false,false,false] rfl rfl (any_of HT_.out (by kernel_rfl)) (fun _ _ _ h=>h) (Or.inl ⟨by rfl,?_⟩) ?_ ?_
      rotate_left
      ·
       intro w'
       go_simp
       with_reducible rfl
      rotate_left
      ·
       simp only [Act.put, zz11, zz12, zz13, i64_w, i32_w]
       rfl
      refine pure_ (i:=2) (N:=some 17) (v:=?_) (a':=?_) #[true,true,true,false,false,false,false,false,false,false,false,false,false,false,false] rfl rfl (any_of HT_.out (by kernel_rfl)) (fun _ _ _ h=>h) (Or.inl ⟨by rfl,?_⟩) ?_ ?_
      rotate_left
      ·
       intro w'
       go_simp
       with_reducible rfl
      rotate_left
      ·
       simp only [Act.put, zz11, zz12, zz13, i64_w, i32_w]
       rfl
      refine pure_ (i:=3) (N:=some 18) (v:=?_) (a':=?_) #[true,true,true,true,false,false,false,false,false,false,false,false,false,false,false] rfl rfl (any_of HT_.out (by kernel_rfl)) (fun _ _ _ h=>h) (Or.inl ⟨by rfl,?_⟩) ?_ ?_
      rotate_left
      ·
       intro w'
       go_simp
       with_reducible rfl
      rotate_left
      ·
       simp only [Act.put, zz11, zz12, zz13, i64_w, i32_w]
       rfl
      refine pure_ (i:=5) (N:=some 20) (v:=?_) (a':=?_) #[true,true,true,true,false,true,false,false,false,false,false,false,false,false,false] rfl rfl (any_of HT_.out (by kernel_rfl)) (fun _ _ _ h=>h) (Or.inl ⟨by rfl,?_⟩) ?_ ?_
      rotate_left
      ·
       intro w'
       go_simp
       with_reducible rfl
      rotate_left
      ·
       simp only [Act.put, zz11, zz12, zz13, i64_w, i32_w]
       rfl
      refine pure_ (i:=6) (N:=some 21) (v:=?_) (a':=?_) #[true,true,true,true,false,true,true,false,false,false,false,false,false,false,false] rfl rfl (any_of HT_.out (by kernel_rfl)) (fun _ _ _ h=>h) (Or.inl ⟨by rfl,?_⟩) ?_ ?_
      rotate_left
      ·
       intro w'
       go_simp
       with_reducible rfl
      rotate_left
      ·
       simp only [Act.put, zz11, zz12, zz13, i64_w, i32_w]
       rfl
      refine pure_ (i:=7) (N:=some 22) (v:=?_) (a':=?_) #[true,true,true,true,false,true,true,true,false,false,false,false,false,false,false] rfl rfl (any_of HT_.out (by kernel_rfl)) (fun _ _ _ h=>h) (Or.inl ⟨by rfl,?_⟩) ?_ ?_
      rotate_left
      ·
       intro w'
       go_simp
       with_reducible rfl
      rotate_left
      ·
       simp only [Act.put, zz11, zz12, zz13, i64_w, i32_w]
       rfl
      refine pure_ (i:=8) (N:=some 23) (v:=?_) (a':=?_) #[true,true,true,true,false,true,true,true,true,false,false,false,false,false,false] rfl rfl (any_of HT_.out (by kernel_rfl)) (fun _ _ _ h=>h) (Or.inl ⟨by rfl,?_⟩) ?_ ?_
      rotate_left
      ·
       intro w'
       go_simp
       with_reducible rfl
      rotate_left
      ·
       simp only [Act.put, zz11, zz12, zz13, i64_w, i32_w]
       rfl
      refine pure_ (i:=10) (N:=some 25) (v:=?_) (a':=?_) #[true,true,true,true,false,true,true,true,true,false,true,false,false,false,false] rfl rfl (any_of HT_.out (by kernel_rfl)) (fun _ _ _ h=>h) (Or.inl ⟨by rfl,?_⟩) ?_ ?_
      rotate_left
      ·
       intro w'
       go_simp
       with_reducible rfl
      rotate_left
      ·
       simp only [Act.put, zz11, zz12, zz13, i64_w, i32_w]
       rfl
      refine pure_ (i:=11) (N:=some 26) (v:=?_) (a':=?_) #[true,true,true,true,false,true,true,true,true,false,true,true,false,false,false] rfl rfl (any_of HT_.out (by kernel_rfl)) (fun _ _ _ h=>h) (Or.inl ⟨by rfl,?_⟩) ?_ ?_
      rotate_left
      ·
       intro w'
       go_simp
       with_reducible rfl
      rotate_left
      ·
       simp only [Act.put, zz11, zz12, zz13, i64_w, i32_w]
       rfl
      refine take_ (i:=4) (N:=some 19) (v:=?_) (a':=?_) #[true,true,true,true,true,true,true,true,true,false,true,true,false,false,false] rfl rfl (take_ofW HT_.out HW_.out (by kernel_rfl)) (fun _ _ _ h=>h) (Or.inl ⟨by rfl,?_⟩) hHeld ?_ ?_
      rotate_left
      ·
       rintro w' ⟨s0, s1⟩
       go_simp
       with_reducible rfl
      rotate_left
      ·
       simp only [Act.put, zz11, zz12, zz13, i64_w, i32_w]
       rfl
      refine take_ (i:=9) (N:=some 24) (v:=?_) (a':=?_) #[true,true,true,true,true,true,true,true,true,true,true,true,false,false,false] rfl rfl (take_ofW HT_.out HW_.out (by kernel_rfl)) (fun _ _ _ h=>h) (Or.inl ⟨by rfl,?_⟩) hHeld ?_ ?_
      rotate_left
      ·
       rintro w' ⟨s0, s1⟩
       go_simp
       with_reducible rfl
      rotate_left
      ·
       simp only [Act.put, zz11, zz12, zz13, i64_w, i32_w]
       rfl
      refine pure_ (i:=12) (N:=some 27) (v:=?_) (a':=?_) #[true,true,true,true,true,true,true,true,true,true,true,true,true,false,false] rfl rfl (any_of HT_.out (by kernel_rfl)) (fun _ _ _ h=>h) (Or.inl ⟨by rfl,?_⟩) ?_ ?_
      rotate_left
      ·
       intro w'
       go_simp
       with_reducible rfl
      rotate_left
      ·
       simp only [Act.put, zz11, zz12, zz13, i64_w, i32_w]
       rfl
      refine one_ (i:=13) (N:=none) #[true,true,true,true,true,true,true,true,true,true,true,true,true,true,false] rfl rfl (one_of HT_.out (by kernel_rfl)) (by decide) (fun K hK=>?_)
      have hs20 : w17.cell? ⟨gb301, 0, none⟩ = some (.int .i64 0) := (zz18 BK301.out 0).trans rfl
      have hfs20 := zz17 BK301.out 0
      have hs21 : w17.cell? ⟨gb301, 1, none⟩ = some (.int .i64 0) := (zz18 BK301.out 1).trans rfl
      have hfs21 := zz17 BK301.out 1
      have hs22 : w17.cell? ⟨gb301, 2, none⟩ = some (.bool false) := (zz18 BK301.out 2).trans rfl
      have hfs22 := zz17 BK301.out 2
      refine skip_ (w1 := ?_) (by rfl) rfl ?_ ?_
      rotate_left
      ·
       go_simp
       rfl
      refine hK.out _ _ ⟨((cell_far (p:=⟨gb301,_,none⟩) (by first|exact Kd.own_blk (Kd.R_ne HO304.out BK301.out (by decide))|(rw [add_block];exact Kd.own_blk (Kd.R_ne HO304.out BK301.out (by decide)))|(show (Addr.add _ _).block ≠ _;rw [add_block];exact Kd.own_blk (Kd.R_ne HO304.out BK301.out (by decide)))|(dsimp only;exact Kd.own_blk (Kd.R_ne HO304.out BK301.out (by decide)))) _).trans (((cell_far (p:=⟨gb301,_,none⟩) (by first|exact Kd.own_blk (Kd.R_ne HO304.out BK301.out (by decide))|(rw [add_block];exact Kd.own_blk (Kd.R_ne HO304.out BK301.out (by decide)))|(show (Addr.add _ _).block ≠ _;rw [add_block];exact Kd.own_blk (Kd.R_ne HO304.out BK301.out (by decide)))|(dsimp only;exact Kd.own_blk (Kd.R_ne HO304.out BK301.out (by decide)))) _).trans (((cell_far (p:=⟨gb301,_,none⟩) (by first|exact Kd.own_blk (Kd.R_ne HO304.out BK301.out (by decide))|(rw [add_block];exact Kd.own_blk (Kd.R_ne HO304.out BK301.out (by decide)))|(show (Addr.add _ _).block ≠ _;rw [add_block];exact Kd.own_blk (Kd.R_ne HO304.out BK301.out (by decide)))|(dsimp only;exact Kd.own_blk (Kd.R_ne HO304.out BK301.out (by decide)))) _).trans (hHeld.1)))))),((cell_far (p:=⟨gb301,_,none⟩) (by first|exact Kd.own_blk (Kd.R_ne HO307.out BK301.out (by decide))|(rw [add_block];exact Kd.own_blk (Kd.R_ne HO307.out BK301.out (by decide)))|(show (Addr.add _ _).block ≠ _;rw [add_block];exact Kd.own_blk (Kd.R_ne HO307.out BK301.out (by decide)))|(dsimp only;exact Kd.own_blk (Kd.R_ne HO307.out BK301.out (by decide)))) _).trans (((cell_far (p:=⟨gb301,_,none⟩) (by first|exact Kd.own_blk (Kd.R_ne HO307.out BK301.out (by decide))|(rw [add_block];exact Kd.own_blk (Kd.R_ne HO307.out BK301.out (by decide)))|(show (Addr.add _ _).block ≠ _;rw [add_block];exact Kd.own_blk (Kd.R_ne HO307.out BK301.out (by decide)))|(dsimp only;exact Kd.own_blk (Kd.R_ne HO307.out BK301.out (by decide)))) _).trans (((cell_far (p:=⟨gb301,_,none⟩) (by first|exact Kd.own_blk (Kd.R_ne HO307.out BK301.out (by decide))|(rw [add_block];exact Kd.own_blk (Kd.R_ne HO307.out BK301.out (by decide)))|(show (Addr.add _ _).block ≠ _;rw [add_block];exact Kd.own_blk (Kd.R_ne HO307.out BK301.out (by decide)))|(dsimp only;exact Kd.own_blk (Kd.R_ne HO307.out BK301.out (by decide)))) _).trans (hHeld.2))))))⟩ (fun hHeld=>?_)
      clear hK K
      refine pure_ (i:=14) (N:=some 3) (v:=?_) (a':=?_) #[true,true,true,true,true,true,true,true,true,true,true,true,true,true,true] rfl rfl (any_of HT_.out (by kernel_rfl)) (fun _ _ _ h=>h) (Or.inl ⟨by rfl,?_⟩) ?_ ?_
      rotate_left
      ·
       intro w'
       go_simp
       with_reducible rfl
      rotate_left
      ·
       simp only [Act.put, zz11, zz12, zz13, i64_w, i32_w]
       rfl
      refine done_ (done_of HT_.out (by kernel_rfl)) ?_
      try go_wp2
      refine bodyPost_ret (results_ct rfl _ _ gb301 93 #[.int .i64 (rd y302 (ji8)),.int .i64 (rd y305 (ji8)),.bool (decide (a0 > 7))] (0,0) _ rfl (by (with_reducible repeat (first|refine zz07 ?_ _|refine zz09 ?_|refine zz08 ?_ _));refine zz35 (cs:=#[.int .i64 (rd y302 (ji8)),.int .i64 (rd y305 (ji8)),.bool false]) ?_ 2 _ rfl;(with_reducible repeat (first|refine zz07 ?_ _|refine zz09 ?_|refine zz08 ?_ _));refine zz35 (cs:=#[.int .i64 (rd y302 (ji8)),.int .i64 0,.bool false]) ?_ 1 _ rfl;(with_reducible repeat (first|refine zz07 ?_ _|refine zz09 ?_|refine zz08 ?_ _));refine zz35 (cs:=#[.int .i64 0,.int .i64 0,.bool false]) ?_ 0 _ rfl;(with_reducible repeat (first|refine zz07 ?_ _|refine zz09 ?_|refine zz08 ?_ _));exact BK301.out) Tryz.underlying93 rfl (by kernel_rfl)) rfl ?_
      exact ⟨by first|rfl|(simp [errW_none,errW_some] <;> rfl)|(simp only [← hji8];first|rfl|(simp [errW_none,errW_some] <;> rfl))|(simp [*,errW_none,errW_some] <;> rfl),by repeat (first|(with_reducible first|exact HB.out|apply zz03|apply zz01|apply zz02|refine zz10 ?_ GE301.out)|exact HB.out)⟩
     ·
      rw [if_neg c11] at H
      exact absurd H (by simp)
    ·
     rw [if_neg c10] at H
     exact absurd H (by simp)
   ·
    rw [if_neg c9] at H
    exact absurd H (by simp)

def almanackerref07_Number.l0 : Nat → Int → Int → Int → Bool → Option (Int)
  | 0, _, _, _, _ => none
  | k + 1, x3, x311000, x311001, x311002 => if x3 ≤ 14 then ((almanackerref07_Type.f x3).bind fun bt311 => (if (bt311.1 == x311000 && (bt311.2.1 == x311001 && (bt311.2.2.1 == x311002))) = true then (some x3) else (almanackerref07_Number.l0 k (wrap64 (x3 + 1)) x311000 x311001 x311002))) else (some 0)
def almanackerref07_Number.f (k : Nat) (a0_0 : Int) (a0_1 : Int) (a0_2 : Bool) : Option (Int) := almanackerref07_Number.l0 k 1 a0_0 a0_1 a0_2
theorem almanackerref07_Number.mono_l : ∀ k, (∀ y0 y1 y2 y3, LeO (almanackerref07_Number.l0 k y0 y1 y2 y3) (almanackerref07_Number.l0 (k + 1) y0 y1 y2 y3))
 | 0 => fun _ _ _ _ r h => by simp [almanackerref07_Number.l0] at h
 | k + 1 => by
  have ih0 := almanackerref07_Number.mono_l k
  ·
   intro y0 y1 y2 y3
   unfold almanackerref07_Number.l0
   repeat' first
   | (with_reducible exact ih0 _ _ _ _)
   | (with_reducible exact LeO.refl _)
   | (with_reducible exact LeO.none _)
   | (with_reducible refine LeO.ite ?_ ?_)
   | (with_reducible refine LeO.bind ?_ (fun _ => ?_))
   | exact ih0 _ _ _ _
   | exact LeO.none _
   | refine LeO.ite ?_ ?_
   | refine LeO.bind ?_ (fun _ => ?_)
theorem almanackerref07_Number.mono : ∀ a0 a1 a2 k, LeO (almanackerref07_Number.f k a0 a1 a2) (almanackerref07_Number.f (k + 1) a0 a1 a2) := by
 intro a0 a1 a2 k
 have ih0 := almanackerref07_Number.mono_l k
 unfold almanackerref07_Number.f
 repeat' first
   | (with_reducible exact ih0 _ _ _ _)
   | (with_reducible exact LeO.refl _)
   | (with_reducible exact LeO.none _)
   | (with_reducible refine LeO.ite ?_ ?_)
   | (with_reducible refine LeO.bind ?_ (fun _ => ?_))
   | exact ih0 _ _ _ _
   | exact LeO.none _
   | refine LeO.ite ?_ ?_
   | refine LeO.bind ?_ (fun _ => ?_)
set_option maxHeartbeats 8000000 in
set_option maxRecDepth 100000 in
theorem almanackerref07_Number.calls (k : Nat) (a0_0 : Int) (a0_1 : Int) (a0_2 : Bool) (r : Int) (w : World) (h : almanackerref07_Number.f k a0_0 a0_1 a0_2 = some r) :
  Calls Tryz.prog 199 #[.agg #[.int .i64 a0_0, .int .i64 a0_1, .bool a0_2]] w fun e w' => e = .returned (.int .i64 r) ∧ Below w.heap.size w w' := by
 have hu93 := Tryz.underlying93
 have HB := zz00 (Below.refl w.heap.size w)
 have H : (almanackerref07_Number.l0 k 1 a0_0 a0_1 a0_2) = some r := h
 clear h
 have H' := zz00 H
 clear H
 go_enter Tryz.func199, Tryz.ntmps199
 go_wp2_with (first|((with_reducible refine zz24 (N:=1) rfl ?_);refine zz30 ?hg (N:=1) ?hd (cs:=#[.int .i64 a0_0,.int .i64 a0_1,.bool a0_2]) (t:=93) ?hr ?_;(case hd=>rfl);(case hg=>rfl);(case hr=>first|(go_simp;done)|(go_simp;rfl));intro gb310 hg w2 hbox hb;have n0_:=zz00 (zz21 (by repeat (first|(with_reducible first|exact HB.out|apply zz03|apply zz01|apply zz02)|exact HB.out)) hb);have n1_:=zz00 (hbox);have n2_:=zz00 ((by rw [hg];exact (zz22 (by repeat (first|(with_reducible first|exact HB.out|apply zz03|apply zz01|apply zz02)|exact HB.out))) : w.heap.size ≤ gb310));have n3_:=zz00 ((by rw [hg];exact (zz22 (by repeat (first|(with_reducible first|exact HB.out|apply zz03|apply zz01|apply zz02)|exact HB.out))) : w.heap.size ≤ gb310));clear HB;have HB:=n0_;have BK310:=n1_;have GW310:=n2_;have GE310:=n3_;clear n0_ n1_ n2_ n3_;clear hb hbox hg))
 go_loopg [3] k (fun kq v3 w'=>∃ (x3_1 : Int),v3 = .int .i64 x3_1 ∧ Aside0 (almanackerref07_Number.l0 kq x3_1 a0_0 a0_1 a0_2 = some r) ∧ Aside0 (kq ≤ k) ∧ Aside0 (w'.heap[gb310]? = some (.cells #[.int .i64 a0_0,.int .i64 a0_1,.bool a0_2] 93 (0,0))) ∧ Aside0 (Below w.heap.size w w'))
 case atStart=>exact ⟨(1),(by first|rfl|(simp;done)|(simp [*];done)),H',⟨Nat.le_refl _⟩,⟨by (with_reducible repeat (first|refine zz07 ?_ _|refine zz09 ?_|refine zz08 ?_ _));exact BK310.out⟩,⟨by repeat (first|(with_reducible first|exact HB.out|apply zz03|apply zz01|apply zz02|refine zz10 ?_ GE310.out)|exact HB.out)⟩⟩
 case round =>
  clear H'
  try clear c1
  try clear p2
  obtain ⟨x3_1, rfl, HA, HK1, BK310, HB⟩ := hrel
  cases gk with
  | zero => exact absurd HA.out (by simp [almanackerref07_Number.l0])
  | succ k1 =>
   have H := HA.out
   clear HA
   simp only [almanackerref07_Number.l0] at H
   by_cases c3 : x3_1 ≤ 14
   ·
    rw [if_pos c3] at H
    have c3b0 : decide (x3_1 ≤ 14) = true := decide_eq_true c3
    clear c3
    replace H := zz14.mp H
    obtain ⟨⟨t311, t312, t313, t314⟩, A40, H⟩ := H
    replace H : (if (t311 == a0_0 && (t312 == a0_1 && (t313 == a0_2))) = true then (some x3_1) else (almanackerref07_Number.l0 k1 (wrap64 (x3_1 + 1)) a0_0 a0_1 a0_2)) = some r := H
    have A4 := zz00 A40
    clear A40
    by_cases c5 : (t311 == a0_0 && (t312 == a0_1 && (t313 == a0_2))) = true
    ·
     rw [if_pos c5] at H
     have c5b0 : (t311 == a0_0 && (t312 == a0_1 && (t313 == a0_2))) = true := c5
     (try (have c5b1 : decide (t311 = a0_0 && (t312 == a0_1 && (t313 == a0_2))) = true := by simpa using c5))
     (try (have c5b2 : (t311 == a0_0 && (t312 == a0_1 && (t313 == a0_2))) = true := by simpa using c5))
     clear c5
     obtain rfl := Option.some.inj H
     go_wp2_with (first|((with_reducible refine zz23 (f:=240) rfl ?_);refine zz25 (some 12) rfl rfl Tryz.func240 (by kernel_rfl) rfl #[.int .i64 x3_1] rfl (by (try simp only [List.map_toArray,List.map_cons,List.map_nil]);first|done|rfl|(simp only [List.length_drop,List.length_take];rfl)) ?_;(with_reducible refine (almanackerref07_Type.calls x3_1 t311 t312 t313 t314 _ A4.out).mono ?_);rintro e w6 ⟨rfl,hb⟩;refine ⟨_,rfl,?_⟩;have n0_:=zz00 (zz34 (g:=gb310) (o:=.cells #[.int .i64 a0_0,.int .i64 a0_1,.bool a0_2] 93 (0,0)) (by (with_reducible repeat (first|refine zz07 ?_ _|refine zz09 ?_|refine zz08 ?_ _));exact BK310.out) hb);have n1_:=zz00 (zz21 (by repeat (first|(with_reducible first|exact HB.out|apply zz03|apply zz01|apply zz02|refine zz10 ?_ GE310.out)|exact HB.out)) hb);clear BK310;clear HB;have BK310:=n0_;have HB:=n1_;clear n0_ n1_;(try clear hb);(try clear hb2);(try clear hk);(try clear hi))|((with_reducible refine zz24 (N:=4) rfl ?_);refine zz30 ?hg (N:=4) ?hd (cs:=#[.int .i64 0,.int .i64 0,.bool false]) (t:=93) ?hr ?_;(case hd=>rfl);(case hg=>rfl);(case hr=>first|(go_simp;done)|(go_simp;rfl));intro gb315 hg w7 hbox hb;have n0_:=zz00 (zz34 (g:=gb310) (o:=.cells #[.int .i64 a0_0,.int .i64 a0_1,.bool a0_2] 93 (0,0)) (by (with_reducible repeat (first|refine zz07 ?_ _|refine zz09 ?_|refine zz08 ?_ _));exact BK310.out) hb);have n1_:=zz00 (zz21 (by repeat (first|(with_reducible first|exact HB.out|apply zz03|apply zz01|apply zz02|refine zz10 ?_ GE310.out)|exact HB.out)) hb);have n2_:=zz00 (hbox);have n3_:=zz00 ((by rw [hg];exact (zz22 (by repeat (first|(with_reducible first|exact HB.out|apply zz03|apply zz01|apply zz02|refine zz10 ?_ GE310.out)|exact HB.out))) : w.heap.size ≤ gb315));have n4_:=zz00 ((by rw [hg];exact (zz22 (by repeat (first|(with_reducible first|exact HB.out|apply zz03|apply zz01|apply zz02|refine zz10 ?_ GE310.out)|exact HB.out))) : w.heap.size ≤ gb315));have n5_:=zz00 ((by rw [hg];exact Nat.ne_of_lt (blk_lt (g:=gb310) (o:=.cells #[.int .i64 a0_0,.int .i64 a0_1,.bool a0_2] 93 (0,0)) (by (with_reducible repeat (first|refine zz07 ?_ _|refine zz09 ?_|refine zz08 ?_ _));exact BK310.out)) : gb310 ≠ gb315));have n6_:=zz00 ((by rw [hg];exact Nat.ne_of_gt (blk_lt (g:=gb310) (o:=.cells #[.int .i64 a0_0,.int .i64 a0_1,.bool a0_2] 93 (0,0)) (by (with_reducible repeat (first|refine zz07 ?_ _|refine zz09 ?_|refine zz08 ?_ _));exact BK310.out)) : gb315 ≠ gb310));clear BK310;clear HB;have BK310:=n0_;have HB:=n1_;have BK315:=n2_;have GW315:=n3_;have GE315:=n4_;have NB310_315:=n5_;have NB315_310:=n6_;clear n0_ n1_ n2_ n3_ n4_ n5_ n6_;clear hb hbox hg;have hnb8:=NB315_310.out;have hnc8:=NB310_315.out;have hcz9_0 : w7.cell? ⟨gb315,0,none⟩ = some (.int .i64 0):=(zz18 BK315.out 0).trans rfl;have hcz9_1 : w7.cell? ⟨gb315,1,none⟩ = some (.int .i64 0):=(zz18 BK315.out 1).trans rfl;have hcz9_2 : w7.cell? ⟨gb315,2,none⟩ = some (.bool false):=(zz18 BK315.out 2).trans rfl;have hfz9_0:=zz17 BK315.out 0;have hfz9_1:=zz17 BK315.out 1;have hfz9_2:=zz17 BK315.out 2;have hcz10_0 : w7.cell? ⟨gb310,0,none⟩ = some (.int .i64 a0_0):=(zz18 BK310.out 0).trans rfl;have hcz10_1 : w7.cell? ⟨gb310,1,none⟩ = some (.int .i64 a0_1):=(zz18 BK310.out 1).trans rfl;have hcz10_2 : w7.cell? ⟨gb310,2,none⟩ = some (.bool a0_2):=(zz18 BK310.out 2).trans rfl;have hfz10_0:=zz17 BK310.out 0;have hfz10_1:=zz17 BK310.out 1;have hfz10_2:=zz17 BK310.out 2))
     go_ret
     exact ⟨by first|rfl|(simp [errW_none,errW_some] <;> rfl)|(simp [*,errW_none,errW_some] <;> rfl),by repeat (first|(with_reducible first|exact HB.out|apply zz03|apply zz01|apply zz02|refine zz10 ?_ GE310.out|refine zz10 ?_ GE315.out)|exact HB.out)⟩
    ·
     rw [if_neg c5] at H
     have c5b0 : (t311 == a0_0 && (t312 == a0_1 && (t313 == a0_2))) = false := by simpa using c5
     (try (have c5b1 : decide (t311 = a0_0 && (t312 == a0_1 && (t313 == a0_2))) = false := by simpa using c5))
     (try (have c5b2 : (t311 == a0_0 && (t312 == a0_1 && (t313 == a0_2))) = false := by simpa using c5))
     (try (have c5b3 : ¬ (t311 = a0_0 && (t312 == a0_1 && (t313 == a0_2))) := by simpa using c5))
     clear c5
     have H' := zz00 H
     clear H
     go_wp2_with (first|((with_reducible refine zz23 (f:=240) rfl ?_);refine zz25 (some 12) rfl rfl Tryz.func240 (by kernel_rfl) rfl #[.int .i64 x3_1] rfl (by (try simp only [List.map_toArray,List.map_cons,List.map_nil]);first|done|rfl|(simp only [List.length_drop,List.length_take];rfl)) ?_;(with_reducible refine (almanackerref07_Type.calls x3_1 t311 t312 t313 t314 _ A4.out).mono ?_);rintro e w11 ⟨rfl,hb⟩;refine ⟨_,rfl,?_⟩;have n0_:=zz00 (zz34 (g:=gb310) (o:=.cells #[.int .i64 a0_0,.int .i64 a0_1,.bool a0_2] 93 (0,0)) (by (with_reducible repeat (first|refine zz07 ?_ _|refine zz09 ?_|refine zz08 ?_ _));exact BK310.out) hb);have n1_:=zz00 (zz21 (by repeat (first|(with_reducible first|exact HB.out|apply zz03|apply zz01|apply zz02|refine zz10 ?_ GE310.out)|exact HB.out)) hb);clear BK310;clear HB;have BK310:=n0_;have HB:=n1_;clear n0_ n1_;(try clear hb);(try clear hb2);(try clear hk);(try clear hi))|((with_reducible refine zz24 (N:=4) rfl ?_);refine zz30 ?hg (N:=4) ?hd (cs:=#[.int .i64 0,.int .i64 0,.bool false]) (t:=93) ?hr ?_;(case hd=>rfl);(case hg=>rfl);(case hr=>first|(go_simp;done)|(go_simp;rfl));intro gb315 hg w12 hbox hb;have n0_:=zz00 (zz34 (g:=gb310) (o:=.cells #[.int .i64 a0_0,.int .i64 a0_1,.bool a0_2] 93 (0,0)) (by (with_reducible repeat (first|refine zz07 ?_ _|refine zz09 ?_|refine zz08 ?_ _));exact BK310.out) hb);have n1_:=zz00 (zz21 (by repeat (first|(with_reducible first|exact HB.out|apply zz03|apply zz01|apply zz02|refine zz10 ?_ GE310.out)|exact HB.out)) hb);have n2_:=zz00 (hbox);have n3_:=zz00 ((by rw [hg];exact (zz22 (by repeat (first|(with_reducible first|exact HB.out|apply zz03|apply zz01|apply zz02|refine zz10 ?_ GE310.out)|exact HB.out))) : w.heap.size ≤ gb315));have n4_:=zz00 ((by rw [hg];exact (zz22 (by repeat (first|(with_reducible first|exact HB.out|apply zz03|apply zz01|apply zz02|refine zz10 ?_ GE310.out)|exact HB.out))) : w.heap.size ≤ gb315));have n5_:=zz00 ((by rw [hg];exact Nat.ne_of_lt (blk_lt (g:=gb310) (o:=.cells #[.int .i64 a0_0,.int .i64 a0_1,.bool a0_2] 93 (0,0)) (by (with_reducible repeat (first|refine zz07 ?_ _|refine zz09 ?_|refine zz08 ?_ _));exact BK310.out)) : gb310 ≠ gb315));have n6_:=zz00 ((by rw [hg];exact Nat.ne_of_gt (blk_lt (g:=gb310) (o:=.cells #[.int .i64 a0_0,.int .i64 a0_1,.bool a0_2] 93 (0,0)) (by (with_reducible repeat (first|refine zz07 ?_ _|refine zz09 ?_|refine zz08 ?_ _));exact BK310.out)) : gb315 ≠ gb310));clear BK310;clear HB;have BK310:=n0_;have HB:=n1_;have BK315:=n2_;have GW315:=n3_;have GE315:=n4_;have NB310_315:=n5_;have NB315_310:=n6_;clear n0_ n1_ n2_ n3_ n4_ n5_ n6_;clear hb hbox hg;have hnb13:=NB315_310.out;have hnc13:=NB310_315.out;have hcz14_0 : w12.cell? ⟨gb315,0,none⟩ = some (.int .i64 0):=(zz18 BK315.out 0).trans rfl;have hcz14_1 : w12.cell? ⟨gb315,1,none⟩ = some (.int .i64 0):=(zz18 BK315.out 1).trans rfl;have hcz14_2 : w12.cell? ⟨gb315,2,none⟩ = some (.bool false):=(zz18 BK315.out 2).trans rfl;have hfz14_0:=zz17 BK315.out 0;have hfz14_1:=zz17 BK315.out 1;have hfz14_2:=zz17 BK315.out 2;have hcz15_0 : w12.cell? ⟨gb310,0,none⟩ = some (.int .i64 a0_0):=(zz18 BK310.out 0).trans rfl;have hcz15_1 : w12.cell? ⟨gb310,1,none⟩ = some (.int .i64 a0_1):=(zz18 BK310.out 1).trans rfl;have hcz15_2 : w12.cell? ⟨gb310,2,none⟩ = some (.bool a0_2):=(zz18 BK310.out 2).trans rfl;have hfz15_0:=zz17 BK310.out 0;have hfz15_1:=zz17 BK310.out 1;have hfz15_2:=zz17 BK310.out 2))
     go_roundg k1
     case measure => have := HK1.out; omega
     case rel=>exact ⟨(wrap64 (x3_1 + 1)),(by first|rfl|(simp;done)|(simp [*];done)),H',⟨by have:=HK1.out;omega⟩,⟨by (with_reducible repeat (first|refine zz07 ?_ _|refine zz09 ?_|refine zz08 ?_ _));refine zz33 ?_ NB310_315.out _;(with_reducible repeat (first|refine zz07 ?_ _|refine zz09 ?_|refine zz08 ?_ _));refine zz33 ?_ NB310_315.out _;(with_reducible repeat (first|refine zz07 ?_ _|refine zz09 ?_|refine zz08 ?_ _));refine zz33 ?_ NB310_315.out _;(with_reducible repeat (first|refine zz07 ?_ _|refine zz09 ?_|refine zz08 ?_ _));exact BK310.out⟩,⟨by repeat (first|(with_reducible first|exact HB.out|apply zz03|apply zz01|apply zz02|refine zz10 ?_ GE310.out|refine zz10 ?_ GE315.out)|exact HB.out)⟩⟩
   ·
    rw [if_neg c3] at H
    have c3b0 : decide (x3_1 ≤ 14) = false := decide_eq_false c3
    clear c3
    obtain rfl := Option.some.inj H
    go_wp2
    go_ret
    exact ⟨by first|rfl|(simp [errW_none,errW_some] <;> rfl)|(simp [*,errW_none,errW_some] <;> rfl),by repeat (first|(with_reducible first|exact HB.out|apply zz03|apply zz01|apply zz02|refine zz10 ?_ GE310.out)|exact HB.out)⟩

end Go.Proofs.YtflpddhoiafhcaaGreatDoor.R
end

section
-- Written by wip/hprint.py of this repo (holes typed by hand, all else by a program) over the seat YtflpddhoiafhcaaGreatDoor.
namespace Go.Proofs.YtflpddhoiafhcaaGreatDoor.R
open Go.Proofs.YtflpddhoiafhcaaGreatDoor.H
open Go.RowKit Go.Proofs.YtflpddhoiafhcaaGreatDoorW.PrintWords Go.Proofs.YtflpddhoiafhcaaGreatDoorW.PrintLast Go.Proofs.YtflpddhoiafhcaaGreatDoorW.PrintMore
attribute [local go_sem] max2_int min2_int max_two min_two max_three min_three max_four min_four   -- for this text's walks alone
set_option linter.unusedVariables false
set_option linter.unusedSimpArgs false

def almanackerref08_is.f (k : Nat) (a0_0 : Int) (a0_1 : Int) (a0_2 : Bool) (a1 : Int) : Option (Bool) := (almanackerref07_Number.f k a0_0 a0_1 a0_2).bind fun t317 => (if t317 > 0 then (if a1 ≥ 1 then ((almanackerref08_lengths.f k a0_0 a0_1 a0_2).bind fun t318 => (some (decide (a1 ≤ (t318.length : Int))))) else (some false)) else (some false))
theorem almanackerref08_is.mono : ∀ a0 a1 a2 a3 k, LeO (almanackerref08_is.f k a0 a1 a2 a3) (almanackerref08_is.f (k + 1) a0 a1 a2 a3) := by
 intro a0 a1 a2 a3 k
 unfold almanackerref08_is.f
 repeat' first
   | (with_reducible exact almanackerref07_Number.mono _ _ _ _)
   | (with_reducible exact almanackerref08_lengths.mono _ _ _ _)
   | (with_reducible exact LeO.refl _)
   | (with_reducible exact LeO.none _)
   | (with_reducible refine LeO.ite ?_ ?_)
   | (with_reducible refine LeO.bind ?_ (fun _ => ?_))
   | exact almanackerref07_Number.mono _ _ _ _
   | exact almanackerref08_lengths.mono _ _ _ _
   | exact LeO.none _
   | refine LeO.ite ?_ ?_
   | refine LeO.bind ?_ (fun _ => ?_)
set_option maxHeartbeats 8000000 in
set_option maxRecDepth 100000 in
theorem almanackerref08_is.calls (k : Nat) (a0_0 : Int) (a0_1 : Int) (a0_2 : Bool) (a1 : Int) (r : Bool) (w : World) (h : almanackerref08_is.f k a0_0 a0_1 a0_2 a1 = some r) :
  Calls Tryz.prog 151 #[.agg #[.int .i64 a0_0, .int .i64 a0_1, .bool a0_2], .int .i64 a1] w fun e w' => e = .returned (.bool r) ∧ Below w.heap.size w w' := by
 have hu93 := Tryz.underlying93
 have HB := zz00 (Below.refl w.heap.size w)
 have H : ((almanackerref07_Number.f k a0_0 a0_1 a0_2).bind fun t317=>(if t317 > 0 then (if a1 ≥ 1 then ((almanackerref08_lengths.f k a0_0 a0_1 a0_2).bind fun t318=>(some (decide (a1 ≤ (t318.length : Int))))) else (some false)) else (some false))) = some r:=h
 clear h
 replace H := zz14.mp H
 obtain ⟨t317, A30, H⟩ := H
 replace H : (if t317 > 0 then (if a1 ≥ 1 then ((almanackerref08_lengths.f k a0_0 a0_1 a0_2).bind fun t318=>(some (decide (a1 ≤ (t318.length : Int))))) else (some false)) else (some false)) = some r:=H
 have A3 := zz00 A30
 clear A30
 by_cases c4 : t317 > 0
 ·
  rw [if_pos c4] at H
  have c4b0 : decide (0 < t317) = true := decide_eq_true c4
  clear c4
  by_cases c5 : a1 ≥ 1
  ·
   rw [if_pos c5] at H
   have c5b0 : decide (1 ≤ a1) = true := decide_eq_true c5
   clear c5
   replace H := zz14.mp H
   obtain ⟨t318, A60, H⟩ := H
   replace H : (some (decide (a1 ≤ (t318.length : Int)))) = some r := H
   have A6 := zz00 A60
   clear A60
   obtain rfl := Option.some.inj H
   go_enter Tryz.func151, Tryz.ntmps151
   go_wp2_with (first|((with_reducible refine zz24 (N:=2) rfl ?_);(try (refine gate_guard (by rfl) ?_;dsimp only));refine zz30 ?hg (N:=2) ?hd (cs:=#[.int .i64 a0_0,.int .i64 a0_1,.bool a0_2]) (t:=93) ?hr ?_;(case hd=>rfl);(case hg=>rfl);(case hr=>first|(go_simp;done)|(go_simp;rfl));intro gb316 hg w7 hbox hb;have n0_:=zz00 (zz21 (by repeat (first|(with_reducible first|exact HB.out|apply zz03|apply zz01|apply zz02)|exact HB.out)) hb);have n1_:=zz00 (hbox);have n2_:=zz00 ((by rw [hg];exact (zz22 (by repeat (first|(with_reducible first|exact HB.out|apply zz03|apply zz01|apply zz02)|exact HB.out))) : w.heap.size ≤ gb316));have n3_:=zz00 ((by rw [hg];exact (zz22 (by repeat (first|(with_reducible first|exact HB.out|apply zz03|apply zz01|apply zz02)|exact HB.out))) : w.heap.size ≤ gb316));clear HB;have HB:=n0_;have BK316:=n1_;have GW316:=n2_;have GE316:=n3_;clear n0_ n1_ n2_ n3_;clear hb hbox hg;have hcz8_0 : w7.cell? ⟨gb316,0,none⟩ = some (.int .i64 a0_0):=(zz18 BK316.out 0).trans rfl;have hcz8_1 : w7.cell? ⟨gb316,1,none⟩ = some (.int .i64 a0_1):=(zz18 BK316.out 1).trans rfl;have hcz8_2 : w7.cell? ⟨gb316,2,none⟩ = some (.bool a0_2):=(zz18 BK316.out 2).trans rfl;have hfz8_0:=zz17 BK316.out 0;have hfz8_1:=zz17 BK316.out 1;have hfz8_2:=zz17 BK316.out 2)|((with_reducible refine zz23 (f:=199) rfl ?_);refine zz25 (some 6) rfl rfl Tryz.func199 (by kernel_rfl) rfl #[.agg #[.int .i64 a0_0,.int .i64 a0_1,.bool a0_2]] rfl (by (try simp only [List.map_toArray,List.map_cons,List.map_nil]);first|done|rfl|(simp only [List.length_drop,List.length_take];rfl)) ?_;(with_reducible refine (almanackerref07_Number.calls k a0_0 a0_1 a0_2 t317 _ A3.out).mono ?_);rintro e w9 ⟨rfl,hb⟩;refine ⟨_,rfl,?_⟩;have n0_:=zz00 (zz34 (g:=gb316) (o:=.cells #[.int .i64 a0_0,.int .i64 a0_1,.bool a0_2] 93 (0,0)) (by (with_reducible repeat (first|refine zz07 ?_ _|refine zz09 ?_|refine zz08 ?_ _));exact BK316.out) hb);have n1_:=zz00 (zz21 (by repeat (first|(with_reducible first|exact HB.out|apply zz03|apply zz01|apply zz02|refine zz10 ?_ GE316.out)|exact HB.out)) hb);clear BK316;clear HB;have BK316:=n0_;have HB:=n1_;clear n0_ n1_;(try clear hb);(try clear hb2);(try clear hk);(try clear hi);have hcz10_0 : w9.cell? ⟨gb316,0,none⟩ = some (.int .i64 a0_0):=(zz18 BK316.out 0).trans rfl;have hcz10_1 : w9.cell? ⟨gb316,1,none⟩ = some (.int .i64 a0_1):=(zz18 BK316.out 1).trans rfl;have hcz10_2 : w9.cell? ⟨gb316,2,none⟩ = some (.bool a0_2):=(zz18 BK316.out 2).trans rfl;have hfz10_0:=zz17 BK316.out 0;have hfz10_1:=zz17 BK316.out 1;have hfz10_2:=zz17 BK316.out 2)|(go_at_call 152;(with_reducible refine (almanackerref08_lengths.calls k a0_0 a0_1 a0_2 t318 _ A6.out).mono ?_);rintro e w11 ⟨v319,rfl,ho0,hb⟩;have n0_:=zz00 (Kd.R_lower ho0 (zz22 (by repeat (first|(with_reducible first|exact HB.out|apply zz03|apply zz01|apply zz02|refine zz10 ?_ GE316.out)|exact HB.out))));have n1_:=zz00 (zz34 (g:=gb316) (o:=.cells #[.int .i64 a0_0,.int .i64 a0_1,.bool a0_2] 93 (0,0)) (by (with_reducible repeat (first|refine zz07 ?_ _|refine zz09 ?_|refine zz08 ?_ _));exact BK316.out) hb);have n2_:=zz00 (zz21 (by repeat (first|(with_reducible first|exact HB.out|apply zz03|apply zz01|apply zz02|refine zz10 ?_ GE316.out)|exact HB.out)) hb);clear BK316;clear HB;have HO320:=n0_;have BK316:=n1_;have HB:=n2_;clear n0_ n1_ n2_;(try clear hb);(try clear hb2);(try clear hk);(try clear hi);(try clear ho0);obtain ⟨Ao12,co12,eo12⟩:=Kd.R_slice HO320.out;subst eo12))
   go_ret
   exact ⟨by first|rfl|(simp [errW_none,errW_some] <;> rfl)|(simp [*,errW_none,errW_some] <;> rfl),by repeat (first|(with_reducible first|exact HB.out|apply zz03|apply zz01|apply zz02|refine zz10 ?_ GE316.out)|exact HB.out)⟩
  ·
   rw [if_neg c5] at H
   have c5b0 : decide (1 ≤ a1) = false := decide_eq_false c5
   clear c5
   obtain rfl := Option.some.inj H
   go_enter Tryz.func151, Tryz.ntmps151
   go_wp2_with (first|((with_reducible refine zz24 (N:=2) rfl ?_);(try (refine gate_guard (by rfl) ?_;dsimp only));refine zz30 ?hg (N:=2) ?hd (cs:=#[.int .i64 a0_0,.int .i64 a0_1,.bool a0_2]) (t:=93) ?hr ?_;(case hd=>rfl);(case hg=>rfl);(case hr=>first|(go_simp;done)|(go_simp;rfl));intro gb316 hg w13 hbox hb;have n0_:=zz00 (zz21 (by repeat (first|(with_reducible first|exact HB.out|apply zz03|apply zz01|apply zz02)|exact HB.out)) hb);have n1_:=zz00 (hbox);have n2_:=zz00 ((by rw [hg];exact (zz22 (by repeat (first|(with_reducible first|exact HB.out|apply zz03|apply zz01|apply zz02)|exact HB.out))) : w.heap.size ≤ gb316));have n3_:=zz00 ((by rw [hg];exact (zz22 (by repeat (first|(with_reducible first|exact HB.out|apply zz03|apply zz01|apply zz02)|exact HB.out))) : w.heap.size ≤ gb316));clear HB;have HB:=n0_;have BK316:=n1_;have GW316:=n2_;have GE316:=n3_;clear n0_ n1_ n2_ n3_;clear hb hbox hg;have hcz14_0 : w13.cell? ⟨gb316,0,none⟩ = some (.int .i64 a0_0):=(zz18 BK316.out 0).trans rfl;have hcz14_1 : w13.cell? ⟨gb316,1,none⟩ = some (.int .i64 a0_1):=(zz18 BK316.out 1).trans rfl;have hcz14_2 : w13.cell? ⟨gb316,2,none⟩ = some (.bool a0_2):=(zz18 BK316.out 2).trans rfl;have hfz14_0:=zz17 BK316.out 0;have hfz14_1:=zz17 BK316.out 1;have hfz14_2:=zz17 BK316.out 2)|((with_reducible refine zz23 (f:=199) rfl ?_);refine zz25 (some 6) rfl rfl Tryz.func199 (by kernel_rfl) rfl #[.agg #[.int .i64 a0_0,.int .i64 a0_1,.bool a0_2]] rfl (by (try simp only [List.map_toArray,List.map_cons,List.map_nil]);first|done|rfl|(simp only [List.length_drop,List.length_take];rfl)) ?_;(with_reducible refine (almanackerref07_Number.calls k a0_0 a0_1 a0_2 t317 _ A3.out).mono ?_);rintro e w15 ⟨rfl,hb⟩;refine ⟨_,rfl,?_⟩;have n0_:=zz00 (zz34 (g:=gb316) (o:=.cells #[.int .i64 a0_0,.int .i64 a0_1,.bool a0_2] 93 (0,0)) (by (with_reducible repeat (first|refine zz07 ?_ _|refine zz09 ?_|refine zz08 ?_ _));exact BK316.out) hb);have n1_:=zz00 (zz21 (by repeat (first|(with_reducible first|exact HB.out|apply zz03|apply zz01|apply zz02|refine zz10 ?_ GE316.out)|exact HB.out)) hb);clear BK316;clear HB;have BK316:=n0_;have HB:=n1_;clear n0_ n1_;(try clear hb);(try clear hb2);(try clear hk);(try clear hi)))
   go_ret
   exact ⟨by first|rfl|(simp [errW_none,errW_some] <;> rfl)|(simp [*,errW_none,errW_some] <;> rfl),by repeat (first|(with_reducible first|exact HB.out|apply zz03|apply zz01|apply zz02|refine zz10 ?_ GE316.out)|exact HB.out)⟩
 ·
  rw [if_neg c4] at H
  have c4b0 : decide (0 < t317) = false := decide_eq_false c4
  clear c4
  obtain rfl := Option.some.inj H
  go_enter Tryz.func151, Tryz.ntmps151
  go_wp2_with (first|((with_reducible refine zz24 (N:=2) rfl ?_);(try (refine gate_guard (by rfl) ?_;dsimp only));refine zz30 ?hg (N:=2) ?hd (cs:=#[.int .i64 a0_0,.int .i64 a0_1,.bool a0_2]) (t:=93) ?hr ?_;(case hd=>rfl);(case hg=>rfl);(case hr=>first|(go_simp;done)|(go_simp;rfl));intro gb316 hg w16 hbox hb;have n0_:=zz00 (zz21 (by repeat (first|(with_reducible first|exact HB.out|apply zz03|apply zz01|apply zz02)|exact HB.out)) hb);have n1_:=zz00 (hbox);have n2_:=zz00 ((by rw [hg];exact (zz22 (by repeat (first|(with_reducible first|exact HB.out|apply zz03|apply zz01|apply zz02)|exact HB.out))) : w.heap.size ≤ gb316));have n3_:=zz00 ((by rw [hg];exact (zz22 (by repeat (first|(with_reducible first|exact HB.out|apply zz03|apply zz01|apply zz02)|exact HB.out))) : w.heap.size ≤ gb316));clear HB;have HB:=n0_;have BK316:=n1_;have GW316:=n2_;have GE316:=n3_;clear n0_ n1_ n2_ n3_;clear hb hbox hg;have hcz17_0 : w16.cell? ⟨gb316,0,none⟩ = some (.int .i64 a0_0):=(zz18 BK316.out 0).trans rfl;have hcz17_1 : w16.cell? ⟨gb316,1,none⟩ = some (.int .i64 a0_1):=(zz18 BK316.out 1).trans rfl;have hcz17_2 : w16.cell? ⟨gb316,2,none⟩ = some (.bool a0_2):=(zz18 BK316.out 2).trans rfl;have hfz17_0:=zz17 BK316.out 0;have hfz17_1:=zz17 BK316.out 1;have hfz17_2:=zz17 BK316.out 2)|((with_reducible refine zz23 (f:=199) rfl ?_);refine zz25 (some 6) rfl rfl Tryz.func199 (by kernel_rfl) rfl #[.agg #[.int .i64 a0_0,.int .i64 a0_1,.bool a0_2]] rfl (by (try simp only [List.map_toArray,List.map_cons,List.map_nil]);first|done|rfl|(simp only [List.length_drop,List.length_take];rfl)) ?_;(with_reducible refine (almanackerref07_Number.calls k a0_0 a0_1 a0_2 t317 _ A3.out).mono ?_);rintro e w18 ⟨rfl,hb⟩;refine ⟨_,rfl,?_⟩;have n0_:=zz00 (zz34 (g:=gb316) (o:=.cells #[.int .i64 a0_0,.int .i64 a0_1,.bool a0_2] 93 (0,0)) (by (with_reducible repeat (first|refine zz07 ?_ _|refine zz09 ?_|refine zz08 ?_ _));exact BK316.out) hb);have n1_:=zz00 (zz21 (by repeat (first|(with_reducible first|exact HB.out|apply zz03|apply zz01|apply zz02|refine zz10 ?_ GE316.out)|exact HB.out)) hb);clear BK316;clear HB;have BK316:=n0_;have HB:=n1_;clear n0_ n1_;(try clear hb);(try clear hb2);(try clear hk);(try clear hi)))
  go_ret
  exact ⟨by first|rfl|(simp [errW_none,errW_some] <;> rfl)|(simp [*,errW_none,errW_some] <;> rfl),by repeat (first|(with_reducible first|exact HB.out|apply zz03|apply zz01|apply zz02|refine zz10 ?_ GE316.out)|exact HB.out)⟩

def almanackerref08_Days.f (k : Nat) (a0_0 : Int) (a0_1 : Int) (a0_2 : Bool) (a1 : Int) : Option (Int) := (almanackerref08_is.f k a0_0 a0_1 a0_2 a1).bind fun t322 => (if t322 = true then ((almanackerref08_lengths.f k a0_0 a0_1 a0_2).bind fun t323 => (if 0 ≤ (wrap64 (a1 - 1)) then (if (wrap64 (a1 - 1)) < (t323.length : Int) then (some (rd t323 (wrap64 (a1 - 1)))) else (none)) else (none))) else (some 0))
theorem almanackerref08_Days.mono : ∀ a0 a1 a2 a3 k, LeO (almanackerref08_Days.f k a0 a1 a2 a3) (almanackerref08_Days.f (k + 1) a0 a1 a2 a3) := by
 intro a0 a1 a2 a3 k
 unfold almanackerref08_Days.f
 repeat' first
   | (with_reducible exact almanackerref08_is.mono _ _ _ _ _)
   | (with_reducible exact almanackerref08_lengths.mono _ _ _ _)
   | (with_reducible exact LeO.refl _)
   | (with_reducible exact LeO.none _)
   | (with_reducible refine LeO.ite ?_ ?_)
   | (with_reducible refine LeO.bind ?_ (fun _ => ?_))
   | exact almanackerref08_is.mono _ _ _ _ _
   | exact almanackerref08_lengths.mono _ _ _ _
   | exact LeO.none _
   | refine LeO.ite ?_ ?_
   | refine LeO.bind ?_ (fun _ => ?_)
set_option maxHeartbeats 8000000 in
set_option maxRecDepth 100000 in
theorem almanackerref08_Days.calls (k : Nat) (a0_0 : Int) (a0_1 : Int) (a0_2 : Bool) (a1 : Int) (r : Int) (w : World) (h : almanackerref08_Days.f k a0_0 a0_1 a0_2 a1 = some r) :
  Calls Tryz.prog 105 #[.agg #[.int .i64 a0_0, .int .i64 a0_1, .bool a0_2], .int .i64 a1] w fun e w' => e = .returned (.int .i64 r) ∧ Below w.heap.size w w' := by
 have hu93 := Tryz.underlying93
 have HB := zz00 (Below.refl w.heap.size w)
 have H : ((almanackerref08_is.f k a0_0 a0_1 a0_2 a1).bind fun t322=>(if t322 = true then ((almanackerref08_lengths.f k a0_0 a0_1 a0_2).bind fun t323=>(if 0 ≤ (wrap64 (a1 - 1)) then (if (wrap64 (a1 - 1)) < (t323.length : Int) then (some (rd t323 (wrap64 (a1 - 1)))) else (none)) else (none))) else (some 0))) = some r:=h
 clear h
 replace H := zz14.mp H
 obtain ⟨t322, A30, H⟩ := H
 replace H : (if t322 = true then ((almanackerref08_lengths.f k a0_0 a0_1 a0_2).bind fun t323=>(if 0 ≤ (wrap64 (a1 - 1)) then (if (wrap64 (a1 - 1)) < (t323.length : Int) then (some (rd t323 (wrap64 (a1 - 1)))) else (none)) else (none))) else (some 0)) = some r:=H
 have A3 := zz00 A30
 clear A30
 by_cases c4 : t322 = true
 ·
  subst c4
  have H1 : ((almanackerref08_lengths.f k a0_0 a0_1 a0_2).bind fun t323=>(if 0 ≤ (wrap64 (a1 - 1)) then (if (wrap64 (a1 - 1)) < (t323.length : Int) then (some (rd t323 (wrap64 (a1 - 1)))) else (none)) else (none))) = some r:=by rw [if_pos rfl] at H;exact H
  clear H
  have H := H1
  clear H1
  replace H := zz14.mp H
  obtain ⟨t323, A50, H⟩ := H
  replace H : (if 0 ≤ (wrap64 (a1 - 1)) then (if (wrap64 (a1 - 1)) < (t323.length : Int) then (some (rd t323 (wrap64 (a1 - 1)))) else (none)) else (none)) = some r := H
  have A5 := zz00 A50
  clear A50
  obtain ⟨ji6, hji6⟩ : ∃ j_ : Int, (wrap64 (a1 - 1)) = j_ := ⟨_, rfl⟩
  replace H : (if 0 ≤ (ji6) then (if (ji6) < (t323.length : Int) then (some (rd t323 (ji6))) else (none)) else (none)) = some r:=by first|(rw [hji6] at H;exact H)|(simp only [hji6] at H ⊢;exact H)
  (try rw [hji6] at A3)
  (try rw [hji6] at A5)
  have hji6w : (IntKind.i64.wrap (a1 - 1)) = ji6 := (i64_w _).trans hji6
  by_cases c7 : 0 ≤ (ji6)
  ·
   rw [if_pos c7] at H
   have c7b0 : decide (0 ≤ (ji6)) = true := decide_eq_true c7
   clear c7
   by_cases c8 : (ji6) < (t323.length : Int)
   ·
    rw [if_pos c8] at H
    have c8b0 : decide ((ji6) < (t323.length : Int)) = true := decide_eq_true c8
    clear c8
    obtain rfl := Option.some.inj H
    go_enter Tryz.func105, Tryz.ntmps105
    go_wp2_with (first|((with_reducible refine zz24 (N:=2) rfl ?_);refine zz30 ?hg (N:=2) ?hd (cs:=#[.int .i64 a0_0,.int .i64 a0_1,.bool a0_2]) (t:=93) ?hr ?_;(case hd=>rfl);(case hg=>rfl);(case hr=>first|(go_simp;done)|(go_simp;rfl));intro gb321 hg w9 hbox hb;have n0_:=zz00 (zz21 (by repeat (first|(with_reducible first|exact HB.out|apply zz03|apply zz01|apply zz02)|exact HB.out)) hb);have n1_:=zz00 (hbox);have n2_:=zz00 ((by rw [hg];exact (zz22 (by repeat (first|(with_reducible first|exact HB.out|apply zz03|apply zz01|apply zz02)|exact HB.out))) : w.heap.size ≤ gb321));have n3_:=zz00 ((by rw [hg];exact (zz22 (by repeat (first|(with_reducible first|exact HB.out|apply zz03|apply zz01|apply zz02)|exact HB.out))) : w.heap.size ≤ gb321));clear HB;have HB:=n0_;have BK321:=n1_;have GW321:=n2_;have GE321:=n3_;clear n0_ n1_ n2_ n3_;clear hb hbox hg;have hcz10_0 : w9.cell? ⟨gb321,0,none⟩ = some (.int .i64 a0_0):=(zz18 BK321.out 0).trans rfl;have hcz10_1 : w9.cell? ⟨gb321,1,none⟩ = some (.int .i64 a0_1):=(zz18 BK321.out 1).trans rfl;have hcz10_2 : w9.cell? ⟨gb321,2,none⟩ = some (.bool a0_2):=(zz18 BK321.out 2).trans rfl;have hfz10_0:=zz17 BK321.out 0;have hfz10_1:=zz17 BK321.out 1;have hfz10_2:=zz17 BK321.out 2)|((with_reducible refine zz23 (f:=151) rfl ?_);refine zz25 (some 7) rfl rfl Tryz.func151 (by kernel_rfl) rfl #[.agg #[.int .i64 a0_0,.int .i64 a0_1,.bool a0_2],.int .i64 a1] rfl (by (try simp only [List.map_toArray,List.map_cons,List.map_nil]);first|done|rfl|(simp only [List.length_drop,List.length_take];rfl)) ?_;(with_reducible refine (almanackerref08_is.calls k a0_0 a0_1 a0_2 a1 true _ A3.out).mono ?_);rintro e w11 ⟨rfl,hb⟩;refine ⟨_,rfl,?_⟩;have n0_:=zz00 (zz34 (g:=gb321) (o:=.cells #[.int .i64 a0_0,.int .i64 a0_1,.bool a0_2] 93 (0,0)) (by (with_reducible repeat (first|refine zz07 ?_ _|refine zz09 ?_|refine zz08 ?_ _));exact BK321.out) hb);have n1_:=zz00 (zz21 (by repeat (first|(with_reducible first|exact HB.out|apply zz03|apply zz01|apply zz02|refine zz10 ?_ GE321.out)|exact HB.out)) hb);clear BK321;clear HB;have BK321:=n0_;have HB:=n1_;clear n0_ n1_;(try clear hb);(try clear hb2);(try clear hk);(try clear hi);have hcz12_0 : w11.cell? ⟨gb321,0,none⟩ = some (.int .i64 a0_0):=(zz18 BK321.out 0).trans rfl;have hcz12_1 : w11.cell? ⟨gb321,1,none⟩ = some (.int .i64 a0_1):=(zz18 BK321.out 1).trans rfl;have hcz12_2 : w11.cell? ⟨gb321,2,none⟩ = some (.bool a0_2):=(zz18 BK321.out 2).trans rfl;have hfz12_0:=zz17 BK321.out 0;have hfz12_1:=zz17 BK321.out 1;have hfz12_2:=zz17 BK321.out 2)|((with_reducible refine zz23 (f:=152) rfl ?_);refine zz25 (some 10) rfl rfl Tryz.func152 (by kernel_rfl) rfl #[.agg #[.int .i64 a0_0,.int .i64 a0_1,.bool a0_2]] rfl (by (try simp only [List.map_toArray,List.map_cons,List.map_nil]);first|done|rfl|(simp only [List.length_drop,List.length_take];rfl)) ?_;(with_reducible refine (almanackerref08_lengths.calls k a0_0 a0_1 a0_2 t323 _ A5.out).mono ?_);rintro e w13 ⟨v324,rfl,ho0,hb⟩;refine ⟨_,rfl,?_⟩;have n0_:=zz00 (Kd.R_lower ho0 (zz22 (by repeat (first|(with_reducible first|exact HB.out|apply zz03|apply zz01|apply zz02|refine zz10 ?_ GE321.out)|exact HB.out))));have n1_:=zz00 (zz34 (g:=gb321) (o:=.cells #[.int .i64 a0_0,.int .i64 a0_1,.bool a0_2] 93 (0,0)) (by (with_reducible repeat (first|refine zz07 ?_ _|refine zz09 ?_|refine zz08 ?_ _));exact BK321.out) hb);have n2_:=zz00 (zz21 (by repeat (first|(with_reducible first|exact HB.out|apply zz03|apply zz01|apply zz02|refine zz10 ?_ GE321.out)|exact HB.out)) hb);clear BK321;clear HB;have HO325:=n0_;have BK321:=n1_;have HB:=n2_;clear n0_ n1_ n2_;(try clear hb);(try clear hb2);(try clear hk);(try clear hi);(try clear ho0);obtain ⟨Ao14,co14,eo14⟩:=Kd.R_slice HO325.out;subst eo14;have p326 : 0 ≤ ((ji6) : Int):=zz31 (by first|(with_reducible assumption)|assumption);have q326 : (ji6) < (t323.length : Int):=zz31 (by first|(with_reducible assumption)|assumption);obtain ⟨ad326,e326,hx326_0⟩:=Kd.at_int (Kd.R_reads' HO325.out).2.2 (ji6) p326 q326;cases e326;replace p326:=eq_true p326;replace q326:=eq_true q326))
    go_ret
    exact ⟨by first|rfl|(simp [errW_none,errW_some] <;> rfl)|(simp only [← hji6];first|rfl|(simp [errW_none,errW_some] <;> rfl))|(simp [*,errW_none,errW_some] <;> rfl),by repeat (first|(with_reducible first|exact HB.out|apply zz03|apply zz01|apply zz02|refine zz10 ?_ GE321.out)|exact HB.out)⟩
   ·
    rw [if_neg c8] at H
    exact absurd H (by simp)
  ·
   rw [if_neg c7] at H
   exact absurd H (by simp)
 ·
  replace c4 := zz32.mpr c4
  subst c4
  have H1 : (some 0) = some r := by rw [if_neg (show ¬ (false = true) by decide)] at H; exact H
  clear H
  have H := H1
  clear H1
  obtain rfl := Option.some.inj H
  go_enter Tryz.func105, Tryz.ntmps105
  go_wp2_with (first|((with_reducible refine zz24 (N:=2) rfl ?_);refine zz30 ?hg (N:=2) ?hd (cs:=#[.int .i64 a0_0,.int .i64 a0_1,.bool a0_2]) (t:=93) ?hr ?_;(case hd=>rfl);(case hg=>rfl);(case hr=>first|(go_simp;done)|(go_simp;rfl));intro gb321 hg w15 hbox hb;have n0_:=zz00 (zz21 (by repeat (first|(with_reducible first|exact HB.out|apply zz03|apply zz01|apply zz02)|exact HB.out)) hb);have n1_:=zz00 (hbox);have n2_:=zz00 ((by rw [hg];exact (zz22 (by repeat (first|(with_reducible first|exact HB.out|apply zz03|apply zz01|apply zz02)|exact HB.out))) : w.heap.size ≤ gb321));have n3_:=zz00 ((by rw [hg];exact (zz22 (by repeat (first|(with_reducible first|exact HB.out|apply zz03|apply zz01|apply zz02)|exact HB.out))) : w.heap.size ≤ gb321));clear HB;have HB:=n0_;have BK321:=n1_;have GW321:=n2_;have GE321:=n3_;clear n0_ n1_ n2_ n3_;clear hb hbox hg;have hcz16_0 : w15.cell? ⟨gb321,0,none⟩ = some (.int .i64 a0_0):=(zz18 BK321.out 0).trans rfl;have hcz16_1 : w15.cell? ⟨gb321,1,none⟩ = some (.int .i64 a0_1):=(zz18 BK321.out 1).trans rfl;have hcz16_2 : w15.cell? ⟨gb321,2,none⟩ = some (.bool a0_2):=(zz18 BK321.out 2).trans rfl;have hfz16_0:=zz17 BK321.out 0;have hfz16_1:=zz17 BK321.out 1;have hfz16_2:=zz17 BK321.out 2)|((with_reducible refine zz23 (f:=151) rfl ?_);refine zz25 (some 7) rfl rfl Tryz.func151 (by kernel_rfl) rfl #[.agg #[.int .i64 a0_0,.int .i64 a0_1,.bool a0_2],.int .i64 a1] rfl (by (try simp only [List.map_toArray,List.map_cons,List.map_nil]);first|done|rfl|(simp only [List.length_drop,List.length_take];rfl)) ?_;(with_reducible refine (almanackerref08_is.calls k a0_0 a0_1 a0_2 a1 false _ A3.out).mono ?_);rintro e w17 ⟨rfl,hb⟩;refine ⟨_,rfl,?_⟩;have n0_:=zz00 (zz34 (g:=gb321) (o:=.cells #[.int .i64 a0_0,.int .i64 a0_1,.bool a0_2] 93 (0,0)) (by (with_reducible repeat (first|refine zz07 ?_ _|refine zz09 ?_|refine zz08 ?_ _));exact BK321.out) hb);have n1_:=zz00 (zz21 (by repeat (first|(with_reducible first|exact HB.out|apply zz03|apply zz01|apply zz02|refine zz10 ?_ GE321.out)|exact HB.out)) hb);clear BK321;clear HB;have BK321:=n0_;have HB:=n1_;clear n0_ n1_;(try clear hb);(try clear hb2);(try clear hk);(try clear hi)))
  go_ret
  exact ⟨by first|rfl|(simp [errW_none,errW_some] <;> rfl)|(simp [*,errW_none,errW_some] <;> rfl),by repeat (first|(with_reducible first|exact HB.out|apply zz03|apply zz01|apply zz02|refine zz10 ?_ GE321.out)|exact HB.out)⟩

def almanackerref10_Last.f (k : Nat) (a0 : Int) (a1_0 : Int) (a1_1 : Bool) : Option (Int × Int) := (almanackerref07_Of.f k a0).bind fun bt328 => (if bt328.2.2.2 = 0 then ((almanackerref09_Place.f k bt328.2.2.1 a1_0 a1_1).bind fun bt333 => (if bt333.2 = true then ((almanackerref08_Days.f k bt328.1 bt328.2.1 bt328.2.2.1 bt333.1).bind fun t335 => (some (t335, 0))) else (some (0, 3)))) else (some (0, bt328.2.2.2)))
set_option maxHeartbeats 8000000 in
set_option maxRecDepth 100000 in
theorem almanackerref10_Last.calls (k : Nat) (a0 : Int) (a1_0 : Int) (a1_1 : Bool) (r1 : Int) (r2 : Int) (w : World) (h : almanackerref10_Last.f k a0 a1_0 a1_1 = some (r1, r2)) :
  Calls Tryz.prog 48 #[.int .i64 a0, .agg #[.int .i64 a1_0, .bool a1_1]] w fun e w' => e = .returned (.tuple #[.int .i64 r1, .int .i64 r2]) ∧ Below w.heap.size w w' := by
 have hu32 := Tryz.underlying32
 have hu93 := Tryz.underlying93
 have HB := zz00 (Below.refl w.heap.size w)
 have H : ((almanackerref07_Of.f k a0).bind fun bt328=>(if bt328.2.2.2 = 0 then ((almanackerref09_Place.f k bt328.2.2.1 a1_0 a1_1).bind fun bt333=>(if bt333.2 = true then ((almanackerref08_Days.f k bt328.1 bt328.2.1 bt328.2.2.1 bt333.1).bind fun t335=>(some (t335,0))) else (some (0,3)))) else (some (0,bt328.2.2.2)))) = some (r1,r2):=h
 clear h
 replace H := zz14.mp H
 obtain ⟨⟨t328, t329, t330, t331⟩, A30, H⟩ := H
 replace H : (if t331 = 0 then ((almanackerref09_Place.f k t330 a1_0 a1_1).bind fun bt333=>(if bt333.2 = true then ((almanackerref08_Days.f k t328 t329 t330 bt333.1).bind fun t335=>(some (t335,0))) else (some (0,3)))) else (some (0,t331))) = some (r1,r2):=H
 have A3 := zz00 A30
 clear A30
 by_cases c4 : t331 = 0
 ·
  rw [if_pos c4] at H
  have c4b0 : (t331 == 0) = true := zz29.mpr c4
  have c4b1 : (t331 != 0) = false := zz26.mpr c4
  clear c4
  replace H := zz14.mp H
  obtain ⟨⟨t333, t334⟩, A50, H⟩ := H
  replace H : (if t334 = true then ((almanackerref08_Days.f k t328 t329 t330 t333).bind fun t335 => (some (t335, 0))) else (some (0, 3))) = some (r1, r2) := H
  have A5 := zz00 A50
  clear A50
  by_cases c6 : t334 = true
  ·
   subst c6
   have H1 : ((almanackerref08_Days.f k t328 t329 t330 t333).bind fun t335 => (some (t335, 0))) = some (r1, r2) := by rw [if_pos rfl] at H; exact H
   clear H
   have H := H1
   clear H1
   replace H := zz14.mp H
   obtain ⟨t335, A70, H⟩ := H
   replace H : (some (t335, 0)) = some (r1, r2) := H
   have A7 := zz00 A70
   clear A70
   simp only [zz15, zz16] at H
   obtain ⟨rfl, rfl⟩ := H
   go_enter Tryz.func48, Tryz.ntmps48
   go_wp2_with (first|((with_reducible refine zz24 (N:=3) rfl ?_);refine zz30 ?hg (N:=3) ?hd (cs:=#[.int .i64 a1_0,.bool a1_1]) (t:=32) ?hr ?_;(case hd=>rfl);(case hg=>rfl);(case hr=>first|(go_simp;done)|(go_simp;rfl));intro gb327 hg w8 hbox hb;have n0_:=zz00 (zz21 (by repeat (first|(with_reducible first|exact HB.out|apply zz03|apply zz01|apply zz02)|exact HB.out)) hb);have n1_:=zz00 (hbox);have n2_:=zz00 ((by rw [hg];exact (zz22 (by repeat (first|(with_reducible first|exact HB.out|apply zz03|apply zz01|apply zz02)|exact HB.out))) : w.heap.size ≤ gb327));have n3_:=zz00 ((by rw [hg];exact (zz22 (by repeat (first|(with_reducible first|exact HB.out|apply zz03|apply zz01|apply zz02)|exact HB.out))) : w.heap.size ≤ gb327));clear HB;have HB:=n0_;have BK327:=n1_;have GW327:=n2_;have GE327:=n3_;clear n0_ n1_ n2_ n3_;clear hb hbox hg)|((with_reducible refine zz23 (f:=97) rfl ?_);refine zz25 (some 12) rfl rfl Tryz.func97 (by kernel_rfl) rfl #[.int .i64 a0] rfl (by (try simp only [List.map_toArray,List.map_cons,List.map_nil]);first|done|rfl|(simp only [List.length_drop,List.length_take];rfl)) ?_;(with_reducible refine (almanackerref07_Of.calls k a0 t328 t329 t330 t331 _ A3.out).mono ?_);rintro e w9 ⟨rfl,hb⟩;refine ⟨_,rfl,?_⟩;have n0_:=zz00 (zz34 (g:=gb327) (o:=.cells #[.int .i64 a1_0,.bool a1_1] 32 (0,0)) (by (with_reducible repeat (first|refine zz07 ?_ _|refine zz09 ?_|refine zz08 ?_ _));exact BK327.out) hb);have n1_:=zz00 (zz21 (by repeat (first|(with_reducible first|exact HB.out|apply zz03|apply zz01|apply zz02|refine zz10 ?_ GE327.out)|exact HB.out)) hb);clear BK327;clear HB;have BK327:=n0_;have HB:=n1_;clear n0_ n1_;(try clear hb);(try clear hb2);(try clear hk);(try clear hi))|((with_reducible refine zz24 (N:=6) rfl ?_);refine zz30 ?hg (N:=6) ?hd (cs:=#[.int .i64 0,.int .i64 0,.bool false]) (t:=93) ?hr ?_;(case hd=>rfl);(case hg=>rfl);(case hr=>first|(go_simp;done)|(go_simp;rfl));intro gb332 hg w10 hbox hb;have n0_:=zz00 (zz34 (g:=gb327) (o:=.cells #[.int .i64 a1_0,.bool a1_1] 32 (0,0)) (by (with_reducible repeat (first|refine zz07 ?_ _|refine zz09 ?_|refine zz08 ?_ _));exact BK327.out) hb);have n1_:=zz00 (zz21 (by repeat (first|(with_reducible first|exact HB.out|apply zz03|apply zz01|apply zz02|refine zz10 ?_ GE327.out)|exact HB.out)) hb);have n2_:=zz00 (hbox);have n3_:=zz00 ((by rw [hg];exact (zz22 (by repeat (first|(with_reducible first|exact HB.out|apply zz03|apply zz01|apply zz02|refine zz10 ?_ GE327.out)|exact HB.out))) : w.heap.size ≤ gb332));have n4_:=zz00 ((by rw [hg];exact (zz22 (by repeat (first|(with_reducible first|exact HB.out|apply zz03|apply zz01|apply zz02|refine zz10 ?_ GE327.out)|exact HB.out))) : w.heap.size ≤ gb332));have n5_:=zz00 ((by rw [hg];exact Nat.ne_of_lt (blk_lt (g:=gb327) (o:=.cells #[.int .i64 a1_0,.bool a1_1] 32 (0,0)) (by (with_reducible repeat (first|refine zz07 ?_ _|refine zz09 ?_|refine zz08 ?_ _));exact BK327.out)) : gb327 ≠ gb332));have n6_:=zz00 ((by rw [hg];exact Nat.ne_of_gt (blk_lt (g:=gb327) (o:=.cells #[.int .i64 a1_0,.bool a1_1] 32 (0,0)) (by (with_reducible repeat (first|refine zz07 ?_ _|refine zz09 ?_|refine zz08 ?_ _));exact BK327.out)) : gb332 ≠ gb327));clear BK327;clear HB;have BK327:=n0_;have HB:=n1_;have BK332:=n2_;have GW332:=n3_;have GE332:=n4_;have NB327_332:=n5_;have NB332_327:=n6_;clear n0_ n1_ n2_ n3_ n4_ n5_ n6_;clear hb hbox hg;have hnb11:=NB332_327.out;have hnc11:=NB327_332.out;have hcz12_0 : w10.cell? ⟨gb332,0,none⟩ = some (.int .i64 0):=(zz18 BK332.out 0).trans rfl;have hcz12_1 : w10.cell? ⟨gb332,1,none⟩ = some (.int .i64 0):=(zz18 BK332.out 1).trans rfl;have hcz12_2 : w10.cell? ⟨gb332,2,none⟩ = some (.bool false):=(zz18 BK332.out 2).trans rfl;have hfz12_0:=zz17 BK332.out 0;have hfz12_1:=zz17 BK332.out 1;have hfz12_2:=zz17 BK332.out 2;have hcz13_0 : w10.cell? ⟨gb327,0,none⟩ = some (.int .i64 a1_0):=(zz18 BK327.out 0).trans rfl;have hcz13_1 : w10.cell? ⟨gb327,1,none⟩ = some (.bool a1_1):=(zz18 BK327.out 1).trans rfl;have hfz13_0:=zz17 BK327.out 0;have hfz13_1:=zz17 BK327.out 1)|((with_reducible refine zz23 (f:=104) rfl ?_);refine zz25 (some 22) rfl rfl Tryz.func104 (by kernel_rfl) rfl #[.bool t330,.agg #[.int .i64 a1_0,.bool a1_1]] rfl (by (try simp only [List.map_toArray,List.map_cons,List.map_nil]);first|done|rfl|(simp only [List.length_drop,List.length_take];rfl)) ?_;(with_reducible refine (almanackerref09_Place.calls k t330 a1_0 a1_1 t333 true _ A5.out).mono ?_);rintro e w14 ⟨rfl,hb⟩;refine ⟨_,rfl,?_⟩;have n0_:=zz00 (zz34 (g:=gb327) (o:=.cells #[.int .i64 a1_0,.bool a1_1] 32 (0,0)) (by (with_reducible repeat (first|refine zz07 ?_ _|refine zz09 ?_|refine zz08 ?_ _));refine zz33 ?_ NB327_332.out _;(with_reducible repeat (first|refine zz07 ?_ _|refine zz09 ?_|refine zz08 ?_ _));refine zz33 ?_ NB327_332.out _;(with_reducible repeat (first|refine zz07 ?_ _|refine zz09 ?_|refine zz08 ?_ _));refine zz33 ?_ NB327_332.out _;(with_reducible repeat (first|refine zz07 ?_ _|refine zz09 ?_|refine zz08 ?_ _));exact BK327.out) hb);have n1_:=zz00 (zz34 (g:=gb332) (o:=.cells #[.int .i64 t328,.int .i64 t329,.bool t330] 93 (0,0)) (by (with_reducible repeat (first|refine zz07 ?_ _|refine zz09 ?_|refine zz08 ?_ _));refine zz35 (cs:=#[.int .i64 t328,.int .i64 t329,.bool false]) ?_ 2 _ rfl;(with_reducible repeat (first|refine zz07 ?_ _|refine zz09 ?_|refine zz08 ?_ _));refine zz35 (cs:=#[.int .i64 t328,.int .i64 0,.bool false]) ?_ 1 _ rfl;(with_reducible repeat (first|refine zz07 ?_ _|refine zz09 ?_|refine zz08 ?_ _));refine zz35 (cs:=#[.int .i64 0,.int .i64 0,.bool false]) ?_ 0 _ rfl;(with_reducible repeat (first|refine zz07 ?_ _|refine zz09 ?_|refine zz08 ?_ _));exact BK332.out) hb);have n2_:=zz00 (zz21 (by repeat (first|(with_reducible first|exact HB.out|apply zz03|apply zz01|apply zz02|refine zz10 ?_ GE327.out|refine zz10 ?_ GE332.out)|exact HB.out)) hb);clear BK327;clear BK332;clear HB;have BK327:=n0_;have BK332:=n1_;have HB:=n2_;clear n0_ n1_ n2_;(try clear hb);(try clear hb2);(try clear hk);(try clear hi);have hcz15_0 : w14.cell? ⟨gb332,0,none⟩ = some (.int .i64 t328):=(zz18 BK332.out 0).trans rfl;have hcz15_1 : w14.cell? ⟨gb332,1,none⟩ = some (.int .i64 t329):=(zz18 BK332.out 1).trans rfl;have hcz15_2 : w14.cell? ⟨gb332,2,none⟩ = some (.bool t330):=(zz18 BK332.out 2).trans rfl;have hfz15_0:=zz17 BK332.out 0;have hfz15_1:=zz17 BK332.out 1;have hfz15_2:=zz17 BK332.out 2)|((with_reducible refine zz23 (f:=105) rfl ?_);refine zz25 (some 29) rfl rfl Tryz.func105 (by kernel_rfl) rfl #[.agg #[.int .i64 t328,.int .i64 t329,.bool t330],.int .i64 t333] rfl (by (try simp only [List.map_toArray,List.map_cons,List.map_nil]);first|done|rfl|(simp only [List.length_drop,List.length_take];rfl)) ?_;(with_reducible refine (almanackerref08_Days.calls k t328 t329 t330 t333 t335 _ A7.out).mono ?_);rintro e w16 ⟨rfl,hb⟩;refine ⟨_,rfl,?_⟩;have n0_:=zz00 (zz34 (g:=gb327) (o:=.cells #[.int .i64 a1_0,.bool a1_1] 32 (0,0)) (by (with_reducible repeat (first|refine zz07 ?_ _|refine zz09 ?_|refine zz08 ?_ _));exact BK327.out) hb);have n1_:=zz00 (zz34 (g:=gb332) (o:=.cells #[.int .i64 t328,.int .i64 t329,.bool t330] 93 (0,0)) (by (with_reducible repeat (first|refine zz07 ?_ _|refine zz09 ?_|refine zz08 ?_ _));exact BK332.out) hb);have n2_:=zz00 (zz21 (by repeat (first|(with_reducible first|exact HB.out|apply zz03|apply zz01|apply zz02|refine zz10 ?_ GE327.out|refine zz10 ?_ GE332.out)|exact HB.out)) hb);clear BK327;clear BK332;clear HB;have BK327:=n0_;have BK332:=n1_;have HB:=n2_;clear n0_ n1_ n2_;(try clear hb);(try clear hb2);(try clear hk);(try clear hi)))
   go_ret2
   exact ⟨by first|rfl|(simp [errW_none,errW_some] <;> rfl)|(simp [*,errW_none,errW_some] <;> rfl),by repeat (first|(with_reducible first|exact HB.out|apply zz03|apply zz01|apply zz02|refine zz10 ?_ GE327.out|refine zz10 ?_ GE332.out)|exact HB.out)⟩
  ·
   replace c6 := zz32.mpr c6
   subst c6
   have H1 : (some (0, 3)) = some (r1, r2) := by rw [if_neg (show ¬ (false = true) by decide)] at H; exact H
   clear H
   have H := H1
   clear H1
   simp only [zz15, zz16] at H
   obtain ⟨rfl, rfl⟩ := H
   go_enter Tryz.func48, Tryz.ntmps48
   go_wp2_with (first|((with_reducible refine zz24 (N:=3) rfl ?_);refine zz30 ?hg (N:=3) ?hd (cs:=#[.int .i64 a1_0,.bool a1_1]) (t:=32) ?hr ?_;(case hd=>rfl);(case hg=>rfl);(case hr=>first|(go_simp;done)|(go_simp;rfl));intro gb327 hg w17 hbox hb;have n0_:=zz00 (zz21 (by repeat (first|(with_reducible first|exact HB.out|apply zz03|apply zz01|apply zz02)|exact HB.out)) hb);have n1_:=zz00 (hbox);have n2_:=zz00 ((by rw [hg];exact (zz22 (by repeat (first|(with_reducible first|exact HB.out|apply zz03|apply zz01|apply zz02)|exact HB.out))) : w.heap.size ≤ gb327));have n3_:=zz00 ((by rw [hg];exact (zz22 (by repeat (first|(with_reducible first|exact HB.out|apply zz03|apply zz01|apply zz02)|exact HB.out))) : w.heap.size ≤ gb327));clear HB;have HB:=n0_;have BK327:=n1_;have GW327:=n2_;have GE327:=n3_;clear n0_ n1_ n2_ n3_;clear hb hbox hg)|((with_reducible refine zz23 (f:=97) rfl ?_);refine zz25 (some 12) rfl rfl Tryz.func97 (by kernel_rfl) rfl #[.int .i64 a0] rfl (by (try simp only [List.map_toArray,List.map_cons,List.map_nil]);first|done|rfl|(simp only [List.length_drop,List.length_take];rfl)) ?_;(with_reducible refine (almanackerref07_Of.calls k a0 t328 t329 t330 t331 _ A3.out).mono ?_);rintro e w18 ⟨rfl,hb⟩;refine ⟨_,rfl,?_⟩;have n0_:=zz00 (zz34 (g:=gb327) (o:=.cells #[.int .i64 a1_0,.bool a1_1] 32 (0,0)) (by (with_reducible repeat (first|refine zz07 ?_ _|refine zz09 ?_|refine zz08 ?_ _));exact BK327.out) hb);have n1_:=zz00 (zz21 (by repeat (first|(with_reducible first|exact HB.out|apply zz03|apply zz01|apply zz02|refine zz10 ?_ GE327.out)|exact HB.out)) hb);clear BK327;clear HB;have BK327:=n0_;have HB:=n1_;clear n0_ n1_;(try clear hb);(try clear hb2);(try clear hk);(try clear hi))|((with_reducible refine zz24 (N:=6) rfl ?_);refine zz30 ?hg (N:=6) ?hd (cs:=#[.int .i64 0,.int .i64 0,.bool false]) (t:=93) ?hr ?_;(case hd=>rfl);(case hg=>rfl);(case hr=>first|(go_simp;done)|(go_simp;rfl));intro gb332 hg w19 hbox hb;have n0_:=zz00 (zz34 (g:=gb327) (o:=.cells #[.int .i64 a1_0,.bool a1_1] 32 (0,0)) (by (with_reducible repeat (first|refine zz07 ?_ _|refine zz09 ?_|refine zz08 ?_ _));exact BK327.out) hb);have n1_:=zz00 (zz21 (by repeat (first|(with_reducible first|exact HB.out|apply zz03|apply zz01|apply zz02|refine zz10 ?_ GE327.out)|exact HB.out)) hb);have n2_:=zz00 (hbox);have n3_:=zz00 ((by rw [hg];exact (zz22 (by repeat (first|(with_reducible first|exact HB.out|apply zz03|apply zz01|apply zz02|refine zz10 ?_ GE327.out)|exact HB.out))) : w.heap.size ≤ gb332));have n4_:=zz00 ((by rw [hg];exact (zz22 (by repeat (first|(with_reducible first|exact HB.out|apply zz03|apply zz01|apply zz02|refine zz10 ?_ GE327.out)|exact HB.out))) : w.heap.size ≤ gb332));have n5_:=zz00 ((by rw [hg];exact Nat.ne_of_lt (blk_lt (g:=gb327) (o:=.cells #[.int .i64 a1_0,.bool a1_1] 32 (0,0)) (by (with_reducible repeat (first|refine zz07 ?_ _|refine zz09 ?_|refine zz08 ?_ _));exact BK327.out)) : gb327 ≠ gb332));have n6_:=zz00 ((by rw [hg];exact Nat.ne_of_gt (blk_lt (g:=gb327) (o:=.cells #[.int .i64 a1_0,.bool a1_1] 32 (0,0)) (by (with_reducible repeat (first|refine zz07 ?_ _|refine zz09 ?_|refine zz08 ?_ _));exact BK327.out)) : gb332 ≠ gb327));clear BK327;clear HB;have BK327:=n0_;have HB:=n1_;have BK332:=n2_;have GW332:=n3_;have GE332:=n4_;have NB327_332:=n5_;have NB332_327:=n6_;clear n0_ n1_ n2_ n3_ n4_ n5_ n6_;clear hb hbox hg;have hnb20:=NB332_327.out;have hnc20:=NB327_332.out;have hcz21_0 : w19.cell? ⟨gb332,0,none⟩ = some (.int .i64 0):=(zz18 BK332.out 0).trans rfl;have hcz21_1 : w19.cell? ⟨gb332,1,none⟩ = some (.int .i64 0):=(zz18 BK332.out 1).trans rfl;have hcz21_2 : w19.cell? ⟨gb332,2,none⟩ = some (.bool false):=(zz18 BK332.out 2).trans rfl;have hfz21_0:=zz17 BK332.out 0;have hfz21_1:=zz17 BK332.out 1;have hfz21_2:=zz17 BK332.out 2;have hcz22_0 : w19.cell? ⟨gb327,0,none⟩ = some (.int .i64 a1_0):=(zz18 BK327.out 0).trans rfl;have hcz22_1 : w19.cell? ⟨gb327,1,none⟩ = some (.bool a1_1):=(zz18 BK327.out 1).trans rfl;have hfz22_0:=zz17 BK327.out 0;have hfz22_1:=zz17 BK327.out 1)|((with_reducible refine zz23 (f:=104) rfl ?_);refine zz25 (some 22) rfl rfl Tryz.func104 (by kernel_rfl) rfl #[.bool t330,.agg #[.int .i64 a1_0,.bool a1_1]] rfl (by (try simp only [List.map_toArray,List.map_cons,List.map_nil]);first|done|rfl|(simp only [List.length_drop,List.length_take];rfl)) ?_;(with_reducible refine (almanackerref09_Place.calls k t330 a1_0 a1_1 t333 false _ A5.out).mono ?_);rintro e w23 ⟨rfl,hb⟩;refine ⟨_,rfl,?_⟩;have n0_:=zz00 (zz34 (g:=gb327) (o:=.cells #[.int .i64 a1_0,.bool a1_1] 32 (0,0)) (by (with_reducible repeat (first|refine zz07 ?_ _|refine zz09 ?_|refine zz08 ?_ _));refine zz33 ?_ NB327_332.out _;(with_reducible repeat (first|refine zz07 ?_ _|refine zz09 ?_|refine zz08 ?_ _));refine zz33 ?_ NB327_332.out _;(with_reducible repeat (first|refine zz07 ?_ _|refine zz09 ?_|refine zz08 ?_ _));refine zz33 ?_ NB327_332.out _;(with_reducible repeat (first|refine zz07 ?_ _|refine zz09 ?_|refine zz08 ?_ _));exact BK327.out) hb);have n1_:=zz00 (zz34 (g:=gb332) (o:=.cells #[.int .i64 t328,.int .i64 t329,.bool t330] 93 (0,0)) (by (with_reducible repeat (first|refine zz07 ?_ _|refine zz09 ?_|refine zz08 ?_ _));refine zz35 (cs:=#[.int .i64 t328,.int .i64 t329,.bool false]) ?_ 2 _ rfl;(with_reducible repeat (first|refine zz07 ?_ _|refine zz09 ?_|refine zz08 ?_ _));refine zz35 (cs:=#[.int .i64 t328,.int .i64 0,.bool false]) ?_ 1 _ rfl;(with_reducible repeat (first|refine zz07 ?_ _|refine zz09 ?_|refine zz08 ?_ _));refine zz35 (cs:=#[.int .i64 0,.int .i64 0,.bool false]) ?_ 0 _ rfl;(with_reducible repeat (first|refine zz07 ?_ _|refine zz09 ?_|refine zz08 ?_ _));exact BK332.out) hb);have n2_:=zz00 (zz21 (by repeat (first|(with_reducible first|exact HB.out|apply zz03|apply zz01|apply zz02|refine zz10 ?_ GE327.out|refine zz10 ?_ GE332.out)|exact HB.out)) hb);clear BK327;clear BK332;clear HB;have BK327:=n0_;have BK332:=n1_;have HB:=n2_;clear n0_ n1_ n2_;(try clear hb);(try clear hb2);(try clear hk);(try clear hi)))
   go_ret2
   exact ⟨by first|rfl|(simp [errW_none,errW_some] <;> rfl)|(simp [*,errW_none,errW_some] <;> rfl),by repeat (first|(with_reducible first|exact HB.out|apply zz03|apply zz01|apply zz02|refine zz10 ?_ GE327.out|refine zz10 ?_ GE332.out)|exact HB.out)⟩
 ·
  rw [if_neg c4] at H
  have c4b0 : (t331 == 0) = false := zz27.mpr c4
  have c4b1 : (t331 != 0) = true := zz28.mpr c4
  simp only [zz15, zz16] at H
  obtain ⟨rfl, rfl⟩ := H
  go_enter Tryz.func48, Tryz.ntmps48
  go_wp2_with (first|((with_reducible refine zz24 (N:=3) rfl ?_);refine zz30 ?hg (N:=3) ?hd (cs:=#[.int .i64 a1_0,.bool a1_1]) (t:=32) ?hr ?_;(case hd=>rfl);(case hg=>rfl);(case hr=>first|(go_simp;done)|(go_simp;rfl));intro gb327 hg w24 hbox hb;have n0_:=zz00 (zz21 (by repeat (first|(with_reducible first|exact HB.out|apply zz03|apply zz01|apply zz02)|exact HB.out)) hb);have n1_:=zz00 (hbox);have n2_:=zz00 ((by rw [hg];exact (zz22 (by repeat (first|(with_reducible first|exact HB.out|apply zz03|apply zz01|apply zz02)|exact HB.out))) : w.heap.size ≤ gb327));have n3_:=zz00 ((by rw [hg];exact (zz22 (by repeat (first|(with_reducible first|exact HB.out|apply zz03|apply zz01|apply zz02)|exact HB.out))) : w.heap.size ≤ gb327));clear HB;have HB:=n0_;have BK327:=n1_;have GW327:=n2_;have GE327:=n3_;clear n0_ n1_ n2_ n3_;clear hb hbox hg)|((with_reducible refine zz23 (f:=97) rfl ?_);refine zz25 (some 12) rfl rfl Tryz.func97 (by kernel_rfl) rfl #[.int .i64 a0] rfl (by (try simp only [List.map_toArray,List.map_cons,List.map_nil]);first|done|rfl|(simp only [List.length_drop,List.length_take];rfl)) ?_;(with_reducible refine (almanackerref07_Of.calls k a0 t328 t329 t330 t331 _ A3.out).mono ?_);rintro e w25 ⟨rfl,hb⟩;refine ⟨_,rfl,?_⟩;have n0_:=zz00 (zz34 (g:=gb327) (o:=.cells #[.int .i64 a1_0,.bool a1_1] 32 (0,0)) (by (with_reducible repeat (first|refine zz07 ?_ _|refine zz09 ?_|refine zz08 ?_ _));exact BK327.out) hb);have n1_:=zz00 (zz21 (by repeat (first|(with_reducible first|exact HB.out|apply zz03|apply zz01|apply zz02|refine zz10 ?_ GE327.out)|exact HB.out)) hb);clear BK327;clear HB;have BK327:=n0_;have HB:=n1_;clear n0_ n1_;(try clear hb);(try clear hb2);(try clear hk);(try clear hi))|((with_reducible refine zz24 (N:=6) rfl ?_);refine zz30 ?hg (N:=6) ?hd (cs:=#[.int .i64 0,.int .i64 0,.bool false]) (t:=93) ?hr ?_;(case hd=>rfl);(case hg=>rfl);(case hr=>first|(go_simp;done)|(go_simp;rfl));intro gb332 hg w26 hbox hb;have n0_:=zz00 (zz34 (g:=gb327) (o:=.cells #[.int .i64 a1_0,.bool a1_1] 32 (0,0)) (by (with_reducible repeat (first|refine zz07 ?_ _|refine zz09 ?_|refine zz08 ?_ _));exact BK327.out) hb);have n1_:=zz00 (zz21 (by repeat (first|(with_reducible first|exact HB.out|apply zz03|apply zz01|apply zz02|refine zz10 ?_ GE327.out)|exact HB.out)) hb);have n2_:=zz00 (hbox);have n3_:=zz00 ((by rw [hg];exact (zz22 (by repeat (first|(with_reducible first|exact HB.out|apply zz03|apply zz01|apply zz02|refine zz10 ?_ GE327.out)|exact HB.out))) : w.heap.size ≤ gb332));have n4_:=zz00 ((by rw [hg];exact (zz22 (by repeat (first|(with_reducible first|exact HB.out|apply zz03|apply zz01|apply zz02|refine zz10 ?_ GE327.out)|exact HB.out))) : w.heap.size ≤ gb332));have n5_:=zz00 ((by rw [hg];exact Nat.ne_of_lt (blk_lt (g:=gb327) (o:=.cells #[.int .i64 a1_0,.bool a1_1] 32 (0,0)) (by (with_reducible repeat (first|refine zz07 ?_ _|refine zz09 ?_|refine zz08 ?_ _));exact BK327.out)) : gb327 ≠ gb332));have n6_:=zz00 ((by rw [hg];exact Nat.ne_of_gt (blk_lt (g:=gb327) (o:=.cells #[.int .i64 a1_0,.bool a1_1] 32 (0,0)) (by (with_reducible repeat (first|refine zz07 ?_ _|refine zz09 ?_|refine zz08 ?_ _));exact BK327.out)) : gb332 ≠ gb327));clear BK327;clear HB;have BK327:=n0_;have HB:=n1_;have BK332:=n2_;have GW332:=n3_;have GE332:=n4_;have NB327_332:=n5_;have NB332_327:=n6_;clear n0_ n1_ n2_ n3_ n4_ n5_ n6_;clear hb hbox hg;have hnb27:=NB332_327.out;have hnc27:=NB327_332.out;have hcz28_0 : w26.cell? ⟨gb332,0,none⟩ = some (.int .i64 0):=(zz18 BK332.out 0).trans rfl;have hcz28_1 : w26.cell? ⟨gb332,1,none⟩ = some (.int .i64 0):=(zz18 BK332.out 1).trans rfl;have hcz28_2 : w26.cell? ⟨gb332,2,none⟩ = some (.bool false):=(zz18 BK332.out 2).trans rfl;have hfz28_0:=zz17 BK332.out 0;have hfz28_1:=zz17 BK332.out 1;have hfz28_2:=zz17 BK332.out 2))
  go_ret2
  exact ⟨by first|rfl|(simp [errW_none,errW_some] <;> rfl)|(simp [*,errW_none,errW_some] <;> rfl),by repeat (first|(with_reducible first|exact HB.out|apply zz03|apply zz01|apply zz02|refine zz10 ?_ GE327.out|refine zz10 ?_ GE332.out)|exact HB.out)⟩

def almanackerref14_names.f  : Option (List ByteArray) := some (([(⟨#[84, 105, 115, 104, 114, 105]⟩ : ByteArray), (⟨#[72, 101, 115, 104, 118, 97, 110]⟩ : ByteArray), (⟨#[75, 105, 115, 108, 101, 118]⟩ : ByteArray), (⟨#[84, 101, 118, 101, 116]⟩ : ByteArray), (⟨#[83, 104, 101, 118, 97, 116]⟩ : ByteArray), (⟨#[65, 100, 97, 114]⟩ : ByteArray), (⟨#[78, 105, 115, 97, 110]⟩ : ByteArray), (⟨#[73, 121, 97, 114]⟩ : ByteArray), (⟨#[83, 105, 118, 97, 110]⟩ : ByteArray), (⟨#[84, 97, 109, 109, 117, 122]⟩ : ByteArray), (⟨#[65, 118]⟩ : ByteArray), (⟨#[69, 108, 117, 108]⟩ : ByteArray)] : List ByteArray))
set_option maxHeartbeats 8000000 in
set_option maxRecDepth 100000 in
theorem almanackerref14_names.calls  (r : List ByteArray) (w : World) (h : almanackerref14_names.f  = some r) :
  Calls Tryz.prog 49 #[] w fun e w' => ∃ v0_ : Value, e = .returned (v0_) ∧ Kd.R Kd.string 9 w' w.heap.size (fun _ => True) v0_ r ∧ Below w.heap.size w w' := by
 have HB := zz00 (Below.refl w.heap.size w)
 have H : (some (([(⟨#[84,105,115,104,114,105]⟩ : ByteArray),(⟨#[72,101,115,104,118,97,110]⟩ : ByteArray),(⟨#[75,105,115,108,101,118]⟩ : ByteArray),(⟨#[84,101,118,101,116]⟩ : ByteArray),(⟨#[83,104,101,118,97,116]⟩ : ByteArray),(⟨#[65,100,97,114]⟩ : ByteArray),(⟨#[78,105,115,97,110]⟩ : ByteArray),(⟨#[73,121,97,114]⟩ : ByteArray),(⟨#[83,105,118,97,110]⟩ : ByteArray),(⟨#[84,97,109,109,117,122]⟩ : ByteArray),(⟨#[65,118]⟩ : ByteArray),(⟨#[69,108,117,108]⟩ : ByteArray)] : List ByteArray))) = some r:=h
 clear h
 obtain ⟨y336,hy336⟩ : ∃ y_ : List ByteArray,y_ = (([(⟨#[84,105,115,104,114,105]⟩ : ByteArray),(⟨#[72,101,115,104,118,97,110]⟩ : ByteArray),(⟨#[75,105,115,108,101,118]⟩ : ByteArray),(⟨#[84,101,118,101,116]⟩ : ByteArray),(⟨#[83,104,101,118,97,116]⟩ : ByteArray),(⟨#[65,100,97,114]⟩ : ByteArray),(⟨#[78,105,115,97,110]⟩ : ByteArray),(⟨#[73,121,97,114]⟩ : ByteArray),(⟨#[83,105,118,97,110]⟩ : ByteArray),(⟨#[84,97,109,109,117,122]⟩ : ByteArray),(⟨#[65,118]⟩ : ByteArray),(⟨#[69,108,117,108]⟩ : ByteArray)] : List ByteArray)):=⟨_,rfl⟩
 replace H : (some y336) = some r:=by first|(rw [hy336];with_reducible exact H)|(have H2_:=(Option.bind_some _ _).symm.trans H;rw [hy336];with_reducible exact H2_)|(have H2_:=(Option.bind_some _ _).symm.trans H;with_reducible exact H2_)|with_reducible exact H|(rw [hy336];exact H)|exact H
 have Ny336 := zz00 hy336
 clear hy336
 obtain rfl := Option.some.inj H
 go_enter Tryz.func49, Tryz.ntmps49
 go_wp2_with (first|((with_reducible refine zz24 (N:=1) rfl ?_);refine Kd.R_lit Kd.string _ 9 ?hg (N:=1) ?hd (xs:=([(⟨#[84,105,115,104,114,105]⟩ : ByteArray),(⟨#[72,101,115,104,118,97,110]⟩ : ByteArray),(⟨#[75,105,115,108,101,118]⟩ : ByteArray),(⟨#[84,101,118,101,116]⟩ : ByteArray),(⟨#[83,104,101,118,97,116]⟩ : ByteArray),(⟨#[65,100,97,114]⟩ : ByteArray),(⟨#[78,105,115,97,110]⟩ : ByteArray),(⟨#[73,121,97,114]⟩ : ByteArray),(⟨#[83,105,118,97,110]⟩ : ByteArray),(⟨#[84,97,109,109,117,122]⟩ : ByteArray),(⟨#[65,118]⟩ : ByteArray),(⟨#[69,108,117,108]⟩ : ByteArray)] : List ByteArray)) (inner:=[.string (⟨#[84,105,115,104,114,105]⟩ : ByteArray),.string (⟨#[72,101,115,104,118,97,110]⟩ : ByteArray),.string (⟨#[75,105,115,108,101,118]⟩ : ByteArray),.string (⟨#[84,101,118,101,116]⟩ : ByteArray),.string (⟨#[83,104,101,118,97,116]⟩ : ByteArray),.string (⟨#[65,100,97,114]⟩ : ByteArray),.string (⟨#[78,105,115,97,110]⟩ : ByteArray),.string (⟨#[73,121,97,114]⟩ : ByteArray),.string (⟨#[83,105,118,97,110]⟩ : ByteArray),.string (⟨#[84,97,109,109,117,122]⟩ : ByteArray),.string (⟨#[65,118]⟩ : ByteArray),.string (⟨#[69,108,117,108]⟩ : ByteArray)]) (ok:=fun _=>True) (okp:=fun _=>True) ?hr ?hp (fun _ hk=>hk) trivial (Below.refl _ _) (Nat.le_refl _) (by simp) ?_;(case hd=>rfl);(case hg=>rfl);(case hr=>first|(go_simp;done)|(go_simp;rfl));(case hp=>exact (Reps.one (show Kd.M Kd.string _ _ _ (⟨#[84,105,115,104,114,105]⟩ : ByteArray) [.string (⟨#[84,105,115,104,114,105]⟩ : ByteArray)] from rfl) (Reps.one (show Kd.M Kd.string _ _ _ (⟨#[72,101,115,104,118,97,110]⟩ : ByteArray) [.string (⟨#[72,101,115,104,118,97,110]⟩ : ByteArray)] from rfl) (Reps.one (show Kd.M Kd.string _ _ _ (⟨#[75,105,115,108,101,118]⟩ : ByteArray) [.string (⟨#[75,105,115,108,101,118]⟩ : ByteArray)] from rfl) (Reps.one (show Kd.M Kd.string _ _ _ (⟨#[84,101,118,101,116]⟩ : ByteArray) [.string (⟨#[84,101,118,101,116]⟩ : ByteArray)] from rfl) (Reps.one (show Kd.M Kd.string _ _ _ (⟨#[83,104,101,118,97,116]⟩ : ByteArray) [.string (⟨#[83,104,101,118,97,116]⟩ : ByteArray)] from rfl) (Reps.one (show Kd.M Kd.string _ _ _ (⟨#[65,100,97,114]⟩ : ByteArray) [.string (⟨#[65,100,97,114]⟩ : ByteArray)] from rfl) (Reps.one (show Kd.M Kd.string _ _ _ (⟨#[78,105,115,97,110]⟩ : ByteArray) [.string (⟨#[78,105,115,97,110]⟩ : ByteArray)] from rfl) (Reps.one (show Kd.M Kd.string _ _ _ (⟨#[73,121,97,114]⟩ : ByteArray) [.string (⟨#[73,121,97,114]⟩ : ByteArray)] from rfl) (Reps.one (show Kd.M Kd.string _ _ _ (⟨#[83,105,118,97,110]⟩ : ByteArray) [.string (⟨#[83,105,118,97,110]⟩ : ByteArray)] from rfl) (Reps.one (show Kd.M Kd.string _ _ _ (⟨#[84,97,109,109,117,122]⟩ : ByteArray) [.string (⟨#[84,97,109,109,117,122]⟩ : ByteArray)] from rfl) (Reps.one (show Kd.M Kd.string _ _ _ (⟨#[65,118]⟩ : ByteArray) [.string (⟨#[65,118]⟩ : ByteArray)] from rfl) (Reps.one (show Kd.M Kd.string _ _ _ (⟨#[69,108,117,108]⟩ : ByteArray) [.string (⟨#[69,108,117,108]⟩ : ByteArray)] from rfl) (Reps.none _ _))))))))))))));intro v337 w1 ho2 hb hg_ hnew_;clear hg_ hnew_;(first|rw [← Ny336.out] at ho2|(simp only [Int.reduceToNat] at ho2;rw [← Ny336.out] at ho2));have n0_:=zz00 (Kd.R_lower ho2 (zz22 (by repeat (first|(with_reducible first|exact HB.out|apply zz03|apply zz01|apply zz02)|exact HB.out))));have n1_:=zz00 (zz21 (by repeat (first|(with_reducible first|exact HB.out|apply zz03|apply zz01|apply zz02)|exact HB.out)) hb);clear HB;have HO338:=n0_;have HB:=n1_;clear n0_ n1_;clear hb ho2))
 go_ret
 exact ⟨_,by first|rfl|(simp [errW_none,errW_some] <;> rfl)|(simp [*,errW_none,errW_some] <;> rfl),by (with_reducible repeat (first|apply zz05|apply zz04|apply zz06));exact HO338.out,by repeat (first|(with_reducible first|exact HB.out|apply zz03|apply zz01|apply zz02)|exact HB.out)⟩

def almanackerref14_Month.f (k : Nat) (a0 : Int) (a1_0 : Int) (a1_1 : Bool) : Option (ByteArray × Int) := (almanackerref10_Last.f k a0 a1_0 a1_1).bind fun bt340 => (if bt340.2 = 0 then (if a1_1 = true then (some ((⟨#[65, 100, 97, 114, 32, 73]⟩ : ByteArray), 0)) else (if a1_0 = 6 then ((almanackerref03_Is.f a0).bind fun t342 => (if t342 = true then (some ((⟨#[65, 100, 97, 114, 32, 73, 73]⟩ : ByteArray), 0)) else ((almanackerref14_names.f).bind fun t343 => (if 0 ≤ (wrap64 (a1_0 - 1)) then (if (wrap64 (a1_0 - 1)) < (t343.length : Int) then (some (rdOf ByteArray.empty t343 (wrap64 (a1_0 - 1)), 0)) else (none)) else (none))))) else ((almanackerref14_names.f).bind fun t347 => (if 0 ≤ (wrap64 (a1_0 - 1)) then (if (wrap64 (a1_0 - 1)) < (t347.length : Int) then (some (rdOf ByteArray.empty t347 (wrap64 (a1_0 - 1)), 0)) else (none)) else (none))))) else (some ((⟨#[]⟩ : ByteArray), bt340.2)))
def almanackerref14_Month.T8 : Bool × List (List Nat × List Nat) := (true, [([], []), ([], []), ([1], [1]), ([2], [2]), ([0, 3], [0, 3]), ([4], [4]), ([5, 0, 0, 1, 2, 3, 4, 5], [5]), ([6, 0, 1, 2, 3, 4, 5, 6], [])])
def almanackerref14_Month.B8 : List Nat := [0, 0, 2, 6, 15, 31, 63, 127]
theorem almanackerref14_Month.tab8 : rtab .any (opsOf Tryz.f17 8) = almanackerref14_Month.T8 := by kernel_rfl
theorem almanackerref14_Month.bits8 : waitsOk almanackerref14_Month.T8.2 almanackerref14_Month.B8 = true := by kernel_rfl
set_option maxHeartbeats 8000000 in
set_option maxRecDepth 100000 in
theorem almanackerref14_Month.calls (k : Nat) (a0 : Int) (a1_0 : Int) (a1_1 : Bool) (r1 : ByteArray) (r2 : Int) (w : World) (h : almanackerref14_Month.f k a0 a1_0 a1_1 = some (r1, r2)) :
  Calls Tryz.prog 17 #[.int .i64 a0, .agg #[.int .i64 a1_0, .bool a1_1]] w fun e w' => e = .returned (.tuple #[.string r1, .int .i64 r2]) ∧ Below w.heap.size w w' := by
 have hu32 := Tryz.underlying32
 have HB := zz00 (Below.refl w.heap.size w)
 have H : ((almanackerref10_Last.f k a0 a1_0 a1_1).bind fun bt340=>(if bt340.2 = 0 then (if a1_1 = true then (some ((⟨#[65,100,97,114,32,73]⟩ : ByteArray),0)) else (if a1_0 = 6 then ((almanackerref03_Is.f a0).bind fun t342=>(if t342 = true then (some ((⟨#[65,100,97,114,32,73,73]⟩ : ByteArray),0)) else ((almanackerref14_names.f).bind fun t343=>(if 0 ≤ (wrap64 (a1_0 - 1)) then (if (wrap64 (a1_0 - 1)) < (t343.length : Int) then (some (rdOf ByteArray.empty t343 (wrap64 (a1_0 - 1)),0)) else (none)) else (none))))) else ((almanackerref14_names.f).bind fun t347=>(if 0 ≤ (wrap64 (a1_0 - 1)) then (if (wrap64 (a1_0 - 1)) < (t347.length : Int) then (some (rdOf ByteArray.empty t347 (wrap64 (a1_0 - 1)),0)) else (none)) else (none))))) else (some ((⟨#[]⟩ : ByteArray),bt340.2)))) = some (r1,r2):=h
 clear h
 replace H := zz14.mp H
 obtain ⟨⟨t340, t341⟩, A30, H⟩ := H
 replace H : (if t341 = 0 then (if a1_1 = true then (some ((⟨#[65,100,97,114,32,73]⟩ : ByteArray),0)) else (if a1_0 = 6 then ((almanackerref03_Is.f a0).bind fun t342=>(if t342 = true then (some ((⟨#[65,100,97,114,32,73,73]⟩ : ByteArray),0)) else ((almanackerref14_names.f).bind fun t343=>(if 0 ≤ (wrap64 (a1_0 - 1)) then (if (wrap64 (a1_0 - 1)) < (t343.length : Int) then (some (rdOf ByteArray.empty t343 (wrap64 (a1_0 - 1)),0)) else (none)) else (none))))) else ((almanackerref14_names.f).bind fun t347=>(if 0 ≤ (wrap64 (a1_0 - 1)) then (if (wrap64 (a1_0 - 1)) < (t347.length : Int) then (some (rdOf ByteArray.empty t347 (wrap64 (a1_0 - 1)),0)) else (none)) else (none))))) else (some ((⟨#[]⟩ : ByteArray),t341))) = some (r1,r2):=H
 have A3 := zz00 A30
 clear A30
 by_cases c4 : t341 = 0
 ·
  rw [if_pos c4] at H
  have c4b0 : (t341 == 0) = true := zz29.mpr c4
  have c4b1 : (t341 != 0) = false := zz26.mpr c4
  clear c4
  by_cases c5 : a1_1 = true
  ·
   subst c5
   have H1 : (some ((⟨#[65, 100, 97, 114, 32, 73]⟩ : ByteArray), 0)) = some (r1, r2) := by rw [if_pos rfl] at H; exact H
   clear H
   have H := H1
   clear H1
   simp only [zz15, zz16] at H
   obtain ⟨rfl, rfl⟩ := H
   go_enter Tryz.func17, Tryz.ntmps17
   go_wp2_with (first|((with_reducible refine zz24 (N:=3) rfl ?_);refine zz30 ?hg (N:=3) ?hd (cs:=#[.int .i64 a1_0,.bool true]) (t:=32) ?hr ?_;(case hd=>rfl);(case hg=>rfl);(case hr=>first|(go_simp;done)|(go_simp;rfl));intro gb339 hg w6 hbox hb;have n0_:=zz00 (zz21 (by repeat (first|(with_reducible first|exact HB.out|apply zz03|apply zz01|apply zz02)|exact HB.out)) hb);have n1_:=zz00 (hbox);have n2_:=zz00 ((by rw [hg];exact (zz22 (by repeat (first|(with_reducible first|exact HB.out|apply zz03|apply zz01|apply zz02)|exact HB.out))) : w.heap.size ≤ gb339));have n3_:=zz00 ((by rw [hg];exact (zz22 (by repeat (first|(with_reducible first|exact HB.out|apply zz03|apply zz01|apply zz02)|exact HB.out))) : w.heap.size ≤ gb339));clear HB;have HB:=n0_;have BK339:=n1_;have GW339:=n2_;have GE339:=n3_;clear n0_ n1_ n2_ n3_;clear hb hbox hg;have hcz7_0 : w6.cell? ⟨gb339,0,none⟩ = some (.int .i64 a1_0):=(zz18 BK339.out 0).trans rfl;have hcz7_1 : w6.cell? ⟨gb339,1,none⟩ = some (.bool true):=(zz18 BK339.out 1).trans rfl;have hfz7_0:=zz17 BK339.out 0;have hfz7_1:=zz17 BK339.out 1)|((with_reducible refine zz23 (f:=48) rfl ?_);refine zz25 (some 11) rfl rfl Tryz.func48 (by kernel_rfl) rfl #[.int .i64 a0,.agg #[.int .i64 a1_0,.bool true]] rfl (by (try simp only [List.map_toArray,List.map_cons,List.map_nil]);first|done|rfl|(simp only [List.length_drop,List.length_take];rfl)) ?_;(with_reducible refine (almanackerref10_Last.calls k a0 a1_0 true t340 t341 _ A3.out).mono ?_);rintro e w8 ⟨rfl,hb⟩;refine ⟨_,rfl,?_⟩;have n0_:=zz00 (zz34 (g:=gb339) (o:=.cells #[.int .i64 a1_0,.bool true] 32 (0,0)) (by (with_reducible repeat (first|refine zz07 ?_ _|refine zz09 ?_|refine zz08 ?_ _));exact BK339.out) hb);have n1_:=zz00 (zz21 (by repeat (first|(with_reducible first|exact HB.out|apply zz03|apply zz01|apply zz02|refine zz10 ?_ GE339.out)|exact HB.out)) hb);clear BK339;clear HB;have BK339:=n0_;have HB:=n1_;clear n0_ n1_;(try clear hb);(try clear hb2);(try clear hk);(try clear hi);have hcz9_0 : w8.cell? ⟨gb339,0,none⟩ = some (.int .i64 a1_0):=(zz18 BK339.out 0).trans rfl;have hcz9_1 : w8.cell? ⟨gb339,1,none⟩ = some (.bool true):=(zz18 BK339.out 1).trans rfl;have hfz9_0:=zz17 BK339.out 0;have hfz9_1:=zz17 BK339.out 1))
   go_ret2
   exact ⟨by first|rfl|(simp [errW_none,errW_some] <;> rfl)|(simp [*,errW_none,errW_some] <;> rfl),by repeat (first|(with_reducible first|exact HB.out|apply zz03|apply zz01|apply zz02|refine zz10 ?_ GE339.out)|exact HB.out)⟩
  ·
   replace c5 := zz32.mpr c5
   subst c5
   have H1 : (if a1_0 = 6 then ((almanackerref03_Is.f a0).bind fun t342=>(if t342 = true then (some ((⟨#[65,100,97,114,32,73,73]⟩ : ByteArray),0)) else ((almanackerref14_names.f).bind fun t343=>(if 0 ≤ (wrap64 (a1_0 - 1)) then (if (wrap64 (a1_0 - 1)) < (t343.length : Int) then (some (rdOf ByteArray.empty t343 (wrap64 (a1_0 - 1)),0)) else (none)) else (none))))) else ((almanackerref14_names.f).bind fun t347=>(if 0 ≤ (wrap64 (a1_0 - 1)) then (if (wrap64 (a1_0 - 1)) < (t347.length : Int) then (some (rdOf ByteArray.empty t347 (wrap64 (a1_0 - 1)),0)) else (none)) else (none)))) = some (r1,r2):=by rw [if_neg (show ¬ (false = true) by decide)] at H;exact H
   clear H
   have H := H1
   clear H1
   by_cases c10 : a1_0 = 6
   ·
    rw [if_pos c10] at H
    have c10b0 : (a1_0 == 6) = true := zz29.mpr c10
    have c10b1 : (a1_0 != 6) = false := zz26.mpr c10
    clear c10
    replace H := zz14.mp H
    obtain ⟨t342, A110, H⟩ := H
    replace H : (if t342 = true then (some ((⟨#[65,100,97,114,32,73,73]⟩ : ByteArray),0)) else ((almanackerref14_names.f).bind fun t343=>(if 0 ≤ (wrap64 (a1_0 - 1)) then (if (wrap64 (a1_0 - 1)) < (t343.length : Int) then (some (rdOf ByteArray.empty t343 (wrap64 (a1_0 - 1)),0)) else (none)) else (none)))) = some (r1,r2):=H
    have A11 := zz00 A110
    clear A110
    by_cases c12 : t342 = true
    ·
     subst c12
     have H1 : (some ((⟨#[65, 100, 97, 114, 32, 73, 73]⟩ : ByteArray), 0)) = some (r1, r2) := by rw [if_pos rfl] at H; exact H
     clear H
     have H := H1
     clear H1
     simp only [zz15, zz16] at H
     obtain ⟨rfl, rfl⟩ := H
     go_enter Tryz.func17, Tryz.ntmps17
     go_wp2_with (first|((with_reducible refine zz24 (N:=3) rfl ?_);refine zz30 ?hg (N:=3) ?hd (cs:=#[.int .i64 a1_0,.bool false]) (t:=32) ?hr ?_;(case hd=>rfl);(case hg=>rfl);(case hr=>first|(go_simp;done)|(go_simp;rfl));intro gb339 hg w13 hbox hb;have n0_:=zz00 (zz21 (by repeat (first|(with_reducible first|exact HB.out|apply zz03|apply zz01|apply zz02)|exact HB.out)) hb);have n1_:=zz00 (hbox);have n2_:=zz00 ((by rw [hg];exact (zz22 (by repeat (first|(with_reducible first|exact HB.out|apply zz03|apply zz01|apply zz02)|exact HB.out))) : w.heap.size ≤ gb339));have n3_:=zz00 ((by rw [hg];exact (zz22 (by repeat (first|(with_reducible first|exact HB.out|apply zz03|apply zz01|apply zz02)|exact HB.out))) : w.heap.size ≤ gb339));clear HB;have HB:=n0_;have BK339:=n1_;have GW339:=n2_;have GE339:=n3_;clear n0_ n1_ n2_ n3_;clear hb hbox hg;have hcz14_0 : w13.cell? ⟨gb339,0,none⟩ = some (.int .i64 a1_0):=(zz18 BK339.out 0).trans rfl;have hcz14_1 : w13.cell? ⟨gb339,1,none⟩ = some (.bool false):=(zz18 BK339.out 1).trans rfl;have hfz14_0:=zz17 BK339.out 0;have hfz14_1:=zz17 BK339.out 1)|((with_reducible refine zz23 (f:=48) rfl ?_);refine zz25 (some 11) rfl rfl Tryz.func48 (by kernel_rfl) rfl #[.int .i64 a0,.agg #[.int .i64 a1_0,.bool false]] rfl (by (try simp only [List.map_toArray,List.map_cons,List.map_nil]);first|done|rfl|(simp only [List.length_drop,List.length_take];rfl)) ?_;(with_reducible refine (almanackerref10_Last.calls k a0 a1_0 false t340 t341 _ A3.out).mono ?_);rintro e w15 ⟨rfl,hb⟩;refine ⟨_,rfl,?_⟩;have n0_:=zz00 (zz34 (g:=gb339) (o:=.cells #[.int .i64 a1_0,.bool false] 32 (0,0)) (by (with_reducible repeat (first|refine zz07 ?_ _|refine zz09 ?_|refine zz08 ?_ _));exact BK339.out) hb);have n1_:=zz00 (zz21 (by repeat (first|(with_reducible first|exact HB.out|apply zz03|apply zz01|apply zz02|refine zz10 ?_ GE339.out)|exact HB.out)) hb);clear BK339;clear HB;have BK339:=n0_;have HB:=n1_;clear n0_ n1_;(try clear hb);(try clear hb2);(try clear hk);(try clear hi);have hcz16_0 : w15.cell? ⟨gb339,0,none⟩ = some (.int .i64 a1_0):=(zz18 BK339.out 0).trans rfl;have hcz16_1 : w15.cell? ⟨gb339,1,none⟩ = some (.bool false):=(zz18 BK339.out 1).trans rfl;have hfz16_0:=zz17 BK339.out 0;have hfz16_1:=zz17 BK339.out 1)|(go_at_call 23;(with_reducible refine (almanackerref03_Is.calls a0 true _ A11.out).mono ?_);rintro e w' ⟨rfl,⟨nd,rfl⟩⟩))
     go_ret2
     exact ⟨by first|rfl|(simp [errW_none,errW_some] <;> rfl)|(simp [*,errW_none,errW_some] <;> rfl),by repeat (first|(with_reducible first|exact HB.out|apply zz03|apply zz01|apply zz02|refine zz10 ?_ GE339.out)|exact HB.out)⟩
    ·
     replace c12 := zz32.mpr c12
     subst c12
     have H1 : ((almanackerref14_names.f).bind fun t343=>(if 0 ≤ (wrap64 (a1_0 - 1)) then (if (wrap64 (a1_0 - 1)) < (t343.length : Int) then (some (rdOf ByteArray.empty t343 (wrap64 (a1_0 - 1)),0)) else (none)) else (none))) = some (r1,r2):=by rw [if_neg (show ¬ (false = true) by decide)] at H;exact H
     clear H
     have H := H1
     clear H1
     replace H := zz14.mp H
     obtain ⟨t343, A170, H⟩ := H
     replace H : (if 0 ≤ (wrap64 (a1_0 - 1)) then (if (wrap64 (a1_0 - 1)) < (t343.length : Int) then (some (rdOf ByteArray.empty t343 (wrap64 (a1_0 - 1)),0)) else (none)) else (none)) = some (r1,r2):=H
     have A17 := zz00 A170
     clear A170
     obtain ⟨ji18, hji18⟩ : ∃ j_ : Int, (wrap64 (a1_0 - 1)) = j_ := ⟨_, rfl⟩
     replace H : (if 0 ≤ (ji18) then (if (ji18) < (t343.length : Int) then (some (rdOf ByteArray.empty t343 (ji18),0)) else (none)) else (none)) = some (r1,r2):=by first|(rw [hji18] at H;exact H)|(simp only [hji18] at H ⊢;exact H)
     (try rw [hji18] at A3)
     (try rw [hji18] at A11)
     (try rw [hji18] at A17)
     have hji18w : (IntKind.i64.wrap (a1_0 - 1)) = ji18 := (i64_w _).trans hji18
     by_cases c19 : 0 ≤ (ji18)
     ·
      rw [if_pos c19] at H
      have c19b0 : decide (0 ≤ (ji18)) = true := decide_eq_true c19
      clear c19
      by_cases c20 : (ji18) < (t343.length : Int)
      ·
       rw [if_pos c20] at H
       have c20b0 : decide ((ji18) < (t343.length : Int)) = true := decide_eq_true c20
       clear c20
       simp only [zz15, zz16] at H
       obtain ⟨rfl, rfl⟩ := H
       go_enter Tryz.func17, Tryz.ntmps17
       try go_wp2_with (first|((with_reducible refine zz24 (N:=3) rfl ?_);refine zz30 ?hg (N:=3) ?hd (cs:=#[.int .i64 a1_0,.bool false]) (t:=32) ?hr ?_;(case hd=>rfl);(case hg=>rfl);(case hr=>first|(go_simp;done)|(go_simp;rfl));intro gb339 hg w21 hbox hb;have n0_:=zz00 (zz21 (by repeat (first|(with_reducible first|exact HB.out|apply zz03|apply zz01|apply zz02)|exact HB.out)) hb);have n1_:=zz00 (hbox);have n2_:=zz00 ((by rw [hg];exact (zz22 (by repeat (first|(with_reducible first|exact HB.out|apply zz03|apply zz01|apply zz02)|exact HB.out))) : w.heap.size ≤ gb339));have n3_:=zz00 ((by rw [hg];exact (zz22 (by repeat (first|(with_reducible first|exact HB.out|apply zz03|apply zz01|apply zz02)|exact HB.out))) : w.heap.size ≤ gb339));clear HB;have HB:=n0_;have BK339:=n1_;have GW339:=n2_;have GE339:=n3_;clear n0_ n1_ n2_ n3_;clear hb hbox hg;have hcz22_0 : w21.cell? ⟨gb339,0,none⟩ = some (.int .i64 a1_0):=(zz18 BK339.out 0).trans rfl;have hcz22_1 : w21.cell? ⟨gb339,1,none⟩ = some (.bool false):=(zz18 BK339.out 1).trans rfl;have hfz22_0:=zz17 BK339.out 0;have hfz22_1:=zz17 BK339.out 1)|((with_reducible refine zz23 (f:=48) rfl ?_);refine zz25 (some 11) rfl rfl Tryz.func48 (by kernel_rfl) rfl #[.int .i64 a0,.agg #[.int .i64 a1_0,.bool false]] rfl (by (try simp only [List.map_toArray,List.map_cons,List.map_nil]);first|done|rfl|(simp only [List.length_drop,List.length_take];rfl)) ?_;(with_reducible refine (almanackerref10_Last.calls k a0 a1_0 false t340 t341 _ A3.out).mono ?_);rintro e w23 ⟨rfl,hb⟩;refine ⟨_,rfl,?_⟩;have n0_:=zz00 (zz34 (g:=gb339) (o:=.cells #[.int .i64 a1_0,.bool false] 32 (0,0)) (by (with_reducible repeat (first|refine zz07 ?_ _|refine zz09 ?_|refine zz08 ?_ _));exact BK339.out) hb);have n1_:=zz00 (zz21 (by repeat (first|(with_reducible first|exact HB.out|apply zz03|apply zz01|apply zz02|refine zz10 ?_ GE339.out)|exact HB.out)) hb);clear BK339;clear HB;have BK339:=n0_;have HB:=n1_;clear n0_ n1_;(try clear hb);(try clear hb2);(try clear hk);(try clear hi);have hcz24_0 : w23.cell? ⟨gb339,0,none⟩ = some (.int .i64 a1_0):=(zz18 BK339.out 0).trans rfl;have hcz24_1 : w23.cell? ⟨gb339,1,none⟩ = some (.bool false):=(zz18 BK339.out 1).trans rfl;have hfz24_0:=zz17 BK339.out 0;have hfz24_1:=zz17 BK339.out 1)|(go_at_call 23;(with_reducible refine (almanackerref03_Is.calls a0 false _ A11.out).mono ?_);rintro e w' ⟨rfl,⟨nd,rfl⟩⟩))
       (try (rw [drewN_self w23];generalize hq_ : World.drewN w23 _ = w23;have n0_ : Aside0 (w23.heap[gb339]? = some (.cells #[.int .i64 a1_0,.bool false] 32 (0,0))):=⟨by rw [← hq_];exact (by (with_reducible repeat (first|refine zz07 ?_ _|refine zz09 ?_|refine zz08 ?_ _));exact BK339.out)⟩;have n1_ : Aside0 (Below w.heap.size w w23):=⟨by rw [← hq_];exact (by repeat (first|(with_reducible first|exact HB.out|apply zz03|apply zz01|apply zz02|refine zz10 ?_ GE339.out)|exact HB.out))⟩;clear BK339 HB hq_;have BK339:=n0_;have HB:=n1_;clear n0_ n1_))
       have n0_ := zz00 (zz09 BK339.out)
       have n1_ := zz00 (zz02 HB.out)
       clear BK339
       clear HB
       have BK339 := n0_
       have HB := n1_
       clear n0_ n1_
       refine start_ (n:=8) (S:=fun w'=>w'.cell? ⟨gb339,0,none⟩ = some (.int .i64 a1_0) ∧ w'.cell? ⟨gb339,1,none⟩ = some (.bool false)) (ds:=[]) #[false,false,false,false,false,false,false,false] (by kernel_rfl) rfl rfl ⟨(zz18 BK339.out 0).trans rfl,(zz18 BK339.out 1).trans rfl⟩ (fun hHeld=>?_);refine with_tabW almanackerref14_Month.tab8 almanackerref14_Month.bits8 (fun HT_ HW_=>?_)
       generalize w23.drew = w25 at BK339 HB hHeld ⊢
       refine pure_ (i:=1) (N:=some 27) (v:=?_) (a':=?_) #[false,true,false,false,false,false,false,false] rfl rfl (any_of HT_.out (by kernel_rfl)) (fun _ _ _ h=>h) (Or.inl ⟨by rfl,?_⟩) ?_ ?_
       rotate_left
       ·
        intro w'
        go_simp
        with_reducible rfl
       rotate_left
       ·
        simp only [Act.put, zz11, zz12, zz13, i64_w, i32_w]
        rfl
       refine take_ (i:=2) (N:=some 28) (v:=?_) (a':=?_) #[false,true,true,false,false,false,false,false] rfl rfl (take_ofW HT_.out HW_.out (by kernel_rfl)) (fun _ _ _ h=>h) (Or.inl ⟨by rfl,?_⟩) hHeld ?_ ?_
       rotate_left
       ·
        rintro w' ⟨s0, s1⟩
        go_simp
        with_reducible rfl
       rotate_left
       ·
        simp only [Act.put, zz11, zz12, zz13, i64_w, i32_w]
        rfl
       refine pure_ (i:=3) (N:=some 29) (v:=?_) (a':=?_) #[false,true,true,true,false,false,false,false] rfl rfl (any_of HT_.out (by kernel_rfl)) (fun _ _ _ h=>h) (Or.inl ⟨by rfl,?_⟩) ?_ ?_
       rotate_left
       ·
        intro w'
        go_simp
        with_reducible rfl
       rotate_left
       ·
        simp only [Act.put, zz11, zz12, zz13, i64_w, i32_w]
        rfl
       refine one_ (i := 0) (N := some 26) #[true, true, true, true, false, false, false, false] rfl rfl (one_of HT_.out (by kernel_rfl)) (by decide) (fun K hK => ?_)
       refine goes_ Tryz.func49 (by kernel_rfl) rfl #[] (by rfl) rfl rfl (by (try simp only [List.map_toArray,List.map_cons,List.map_nil]);first|done|rfl|(simp only [List.length_drop,List.length_take];rfl)) ?_
       with_reducible refine (almanackerref14_names.calls  t343 _ A17.out).mono ?_
       rintro e w26 ⟨v344, rfl, ho0, hb⟩
       refine ⟨_, rfl, ?_⟩
       have n0_:=zz00 (Kd.R_lower ho0 (zz22 (by repeat (first|(with_reducible first|exact HB.out|apply zz03|apply zz01|apply zz02|refine zz10 ?_ GE339.out)|exact HB.out))))
       have n1_:=zz00 (zz34 (g:=gb339) (o:=.cells #[.int .i64 a1_0,.bool false] 32 (0,0)) (by (with_reducible repeat (first|refine zz07 ?_ _|refine zz09 ?_|refine zz08 ?_ _));exact BK339.out) hb)
       have n2_:=zz00 (zz21 (by repeat (first|(with_reducible first|exact HB.out|apply zz03|apply zz01|apply zz02|refine zz10 ?_ GE339.out)|exact HB.out)) hb)
       clear BK339
       clear HB
       have HO345 := n0_
       have BK339 := n1_
       have HB := n2_
       clear n0_ n1_ n2_
       (try clear hb)
       (try clear hb2)
       (try clear hk)
       (try clear hi)
       (try clear ho0)
       obtain ⟨Ao27, co27, eo27⟩ := Kd.R_slice HO345.out
       (first | subst eo27 | (injection eo27 with f1_ f2_ f3_; have f4_ := f1_.symm; have f5_ := f3_.symm; clear f1_ f2_ f3_; subst f4_; subst f5_))
       have p346 : 0 ≤ ((ji18) : Int) := zz31 (by first | (with_reducible assumption) | assumption)
       have q346 : (ji18) < (t343.length : Int) := zz31 (by first | (with_reducible assumption) | assumption)
       obtain ⟨ad346, e346, hx346_0⟩ := Kd.at_string (Kd.R_reads' HO345.out).2.2 (ji18) p346 q346
       cases e346
       replace p346 := eq_true p346
       replace q346 := eq_true q346
       refine hK.out _ _ ⟨(zz18 BK339.out 0).trans rfl, (zz18 BK339.out 1).trans rfl⟩ (fun hHeld => ?_)
       clear hK K
       refine norm_ (a' := ?_) ?_ ?_
       rotate_left
       ·
        show Act.put _ (some 26) _ = _
        simp only [Act.put, zz11, zz12, zz13, i64_w, i32_w]
        rfl
       refine pure_ (i:=4) (N:=some 30) (v:=?_) (a':=?_) #[true,true,true,true,true,false,false,false] rfl rfl (any_of HT_.out (by kernel_rfl)) (fun _ _ _ h=>h) (Or.inl ⟨by rfl,?_⟩) ?_ ?_
       rotate_left
       ·
        intro w'
        go_simp
        with_reducible rfl
       rotate_left
       ·
        simp only [Act.put, zz11, zz12, zz13, i64_w, i32_w]
        rfl
       refine one_ (i := 5) (N := some 31) #[true, true, true, true, true, true, false, false] rfl rfl (one_of HT_.out (by kernel_rfl)) (by decide) (fun K hK => ?_)
       rw [if_pos (by rfl)]
       unfold Oper.wp
       go_simp
       refine hK.out _ _ ⟨(zz18 BK339.out 0).trans rfl, (zz18 BK339.out 1).trans rfl⟩ (fun hHeld => ?_)
       clear hK K
       refine pure_ (i:=6) (N:=some 4) (v:=?_) (a':=?_) #[true,true,true,true,true,true,true,false] rfl rfl (any_of HT_.out (by kernel_rfl)) (fun _ _ _ h=>h) (Or.inl ⟨by rfl,?_⟩) ?_ ?_
       rotate_left
       ·
        intro w'
        go_simp
        with_reducible rfl
       rotate_left
       ·
        simp only [Act.put, zz11, zz12, zz13, i64_w, i32_w]
        rfl
       refine pure_ (i:=7) (N:=some 5) (v:=?_) (a':=?_) #[true,true,true,true,true,true,true,true] rfl rfl (any_of HT_.out (by kernel_rfl)) (fun _ _ _ h=>h) (Or.inl ⟨by rfl,?_⟩) ?_ ?_
       rotate_left
       ·
        intro w'
        go_simp
        with_reducible rfl
       rotate_left
       ·
        simp only [Act.put, zz11, zz12, zz13, i64_w, i32_w]
        rfl
       refine done_ (done_of HT_.out (by kernel_rfl)) ?_
       try go_wp2
       go_ret2
       exact ⟨by first|rfl|(simp [errW_none,errW_some] <;> rfl)|(simp only [← hji18];first|rfl|(simp [errW_none,errW_some] <;> rfl))|(simp [*,errW_none,errW_some] <;> rfl),by repeat (first|(with_reducible first|exact HB.out|apply zz03|apply zz01|apply zz02|refine zz10 ?_ GE339.out)|exact HB.out)⟩
      ·
       rw [if_neg c20] at H
       exact absurd H (by simp)
     ·
      rw [if_neg c19] at H
      exact absurd H (by simp)
   ·
    rw [if_neg c10] at H
    have c10b0 : (a1_0 == 6) = false := zz27.mpr c10
    have c10b1 : (a1_0 != 6) = true := zz28.mpr c10
    replace H := zz14.mp H
    obtain ⟨t347, A280, H⟩ := H
    replace H : (if 0 ≤ (wrap64 (a1_0 - 1)) then (if (wrap64 (a1_0 - 1)) < (t347.length : Int) then (some (rdOf ByteArray.empty t347 (wrap64 (a1_0 - 1)),0)) else (none)) else (none)) = some (r1,r2):=H
    have A28 := zz00 A280
    clear A280
    obtain ⟨ji29, hji29⟩ : ∃ j_ : Int, (wrap64 (a1_0 - 1)) = j_ := ⟨_, rfl⟩
    replace H : (if 0 ≤ (ji29) then (if (ji29) < (t347.length : Int) then (some (rdOf ByteArray.empty t347 (ji29),0)) else (none)) else (none)) = some (r1,r2):=by first|(rw [hji29] at H;exact H)|(simp only [hji29] at H ⊢;exact H)
    (try rw [hji29] at A3)
    (try rw [hji29] at A28)
    have hji29w : (IntKind.i64.wrap (a1_0 - 1)) = ji29 := (i64_w _).trans hji29
    by_cases c30 : 0 ≤ (ji29)
    ·
     rw [if_pos c30] at H
     have c30b0 : decide (0 ≤ (ji29)) = true := decide_eq_true c30
     clear c30
     by_cases c31 : (ji29) < (t347.length : Int)
     ·
      rw [if_pos c31] at H
      have c31b0 : decide ((ji29) < (t347.length : Int)) = true := decide_eq_true c31
      clear c31
      simp only [zz15, zz16] at H
      obtain ⟨rfl, rfl⟩ := H
      go_enter Tryz.func17, Tryz.ntmps17
      try go_wp2_with (first|((with_reducible refine zz24 (N:=3) rfl ?_);refine zz30 ?hg (N:=3) ?hd (cs:=#[.int .i64 a1_0,.bool false]) (t:=32) ?hr ?_;(case hd=>rfl);(case hg=>rfl);(case hr=>first|(go_simp;done)|(go_simp;rfl));intro gb339 hg w32 hbox hb;have n0_:=zz00 (zz21 (by repeat (first|(with_reducible first|exact HB.out|apply zz03|apply zz01|apply zz02)|exact HB.out)) hb);have n1_:=zz00 (hbox);have n2_:=zz00 ((by rw [hg];exact (zz22 (by repeat (first|(with_reducible first|exact HB.out|apply zz03|apply zz01|apply zz02)|exact HB.out))) : w.heap.size ≤ gb339));have n3_:=zz00 ((by rw [hg];exact (zz22 (by repeat (first|(with_reducible first|exact HB.out|apply zz03|apply zz01|apply zz02)|exact HB.out))) : w.heap.size ≤ gb339));clear HB;have HB:=n0_;have BK339:=n1_;have GW339:=n2_;have GE339:=n3_;clear n0_ n1_ n2_ n3_;clear hb hbox hg;have hcz33_0 : w32.cell? ⟨gb339,0,none⟩ = some (.int .i64 a1_0):=(zz18 BK339.out 0).trans rfl;have hcz33_1 : w32.cell? ⟨gb339,1,none⟩ = some (.bool false):=(zz18 BK339.out 1).trans rfl;have hfz33_0:=zz17 BK339.out 0;have hfz33_1:=zz17 BK339.out 1)|((with_reducible refine zz23 (f:=48) rfl ?_);refine zz25 (some 11) rfl rfl Tryz.func48 (by kernel_rfl) rfl #[.int .i64 a0,.agg #[.int .i64 a1_0,.bool false]] rfl (by (try simp only [List.map_toArray,List.map_cons,List.map_nil]);first|done|rfl|(simp only [List.length_drop,List.length_take];rfl)) ?_;(with_reducible refine (almanackerref10_Last.calls k a0 a1_0 false t340 t341 _ A3.out).mono ?_);rintro e w34 ⟨rfl,hb⟩;refine ⟨_,rfl,?_⟩;have n0_:=zz00 (zz34 (g:=gb339) (o:=.cells #[.int .i64 a1_0,.bool false] 32 (0,0)) (by (with_reducible repeat (first|refine zz07 ?_ _|refine zz09 ?_|refine zz08 ?_ _));exact BK339.out) hb);have n1_:=zz00 (zz21 (by repeat (first|(with_reducible first|exact HB.out|apply zz03|apply zz01|apply zz02|refine zz10 ?_ GE339.out)|exact HB.out)) hb);clear BK339;clear HB;have BK339:=n0_;have HB:=n1_;clear n0_ n1_;(try clear hb);(try clear hb2);(try clear hk);(try clear hi);have hcz35_0 : w34.cell? ⟨gb339,0,none⟩ = some (.int .i64 a1_0):=(zz18 BK339.out 0).trans rfl;have hcz35_1 : w34.cell? ⟨gb339,1,none⟩ = some (.bool false):=(zz18 BK339.out 1).trans rfl;have hfz35_0:=zz17 BK339.out 0;have hfz35_1:=zz17 BK339.out 1))
      have n0_ := zz00 (zz09 BK339.out)
      have n1_ := zz00 (zz02 HB.out)
      clear BK339
      clear HB
      have BK339 := n0_
      have HB := n1_
      clear n0_ n1_
      refine start_ (n:=8) (S:=fun w'=>w'.cell? ⟨gb339,0,none⟩ = some (.int .i64 a1_0) ∧ w'.cell? ⟨gb339,1,none⟩ = some (.bool false)) (ds:=[]) #[false,false,false,false,false,false,false,false] (by kernel_rfl) rfl rfl ⟨(zz18 BK339.out 0).trans rfl,(zz18 BK339.out 1).trans rfl⟩ (fun hHeld=>?_);refine with_tabW almanackerref14_Month.tab8 almanackerref14_Month.bits8 (fun HT_ HW_=>?_)
      generalize w34.drew = w36 at BK339 HB hHeld ⊢
      refine pure_ (i:=1) (N:=some 27) (v:=?_) (a':=?_) #[false,true,false,false,false,false,false,false] rfl rfl (any_of HT_.out (by kernel_rfl)) (fun _ _ _ h=>h) (Or.inl ⟨by rfl,?_⟩) ?_ ?_
      rotate_left
      ·
       intro w'
       go_simp
       with_reducible rfl
      rotate_left
      ·
       simp only [Act.put, zz11, zz12, zz13, i64_w, i32_w]
       rfl
      refine take_ (i:=2) (N:=some 28) (v:=?_) (a':=?_) #[false,true,true,false,false,false,false,false] rfl rfl (take_ofW HT_.out HW_.out (by kernel_rfl)) (fun _ _ _ h=>h) (Or.inl ⟨by rfl,?_⟩) hHeld ?_ ?_
      rotate_left
      ·
       rintro w' ⟨s0, s1⟩
       go_simp
       with_reducible rfl
      rotate_left
      ·
       simp only [Act.put, zz11, zz12, zz13, i64_w, i32_w]
       rfl
      refine pure_ (i:=3) (N:=some 29) (v:=?_) (a':=?_) #[false,true,true,true,false,false,false,false] rfl rfl (any_of HT_.out (by kernel_rfl)) (fun _ _ _ h=>h) (Or.inl ⟨by rfl,?_⟩) ?_ ?_
      rotate_left
      ·
       intro w'
       go_simp
       with_reducible rfl
      rotate_left
      ·
       simp only [Act.put, zz11, zz12, zz13, i64_w, i32_w]
       rfl
      refine one_ (i := 0) (N := some 26) #[true, true, true, true, false, false, false, false] rfl rfl (one_of HT_.out (by kernel_rfl)) (by decide) (fun K hK => ?_)
      refine goes_ Tryz.func49 (by kernel_rfl) rfl #[] (by rfl) rfl rfl (by (try simp only [List.map_toArray,List.map_cons,List.map_nil]);first|done|rfl|(simp only [List.length_drop,List.length_take];rfl)) ?_
      with_reducible refine (almanackerref14_names.calls  t347 _ A28.out).mono ?_
      rintro e w37 ⟨v348, rfl, ho0, hb⟩
      refine ⟨_, rfl, ?_⟩
      have n0_:=zz00 (Kd.R_lower ho0 (zz22 (by repeat (first|(with_reducible first|exact HB.out|apply zz03|apply zz01|apply zz02|refine zz10 ?_ GE339.out)|exact HB.out))))
      have n1_:=zz00 (zz34 (g:=gb339) (o:=.cells #[.int .i64 a1_0,.bool false] 32 (0,0)) (by (with_reducible repeat (first|refine zz07 ?_ _|refine zz09 ?_|refine zz08 ?_ _));exact BK339.out) hb)
      have n2_:=zz00 (zz21 (by repeat (first|(with_reducible first|exact HB.out|apply zz03|apply zz01|apply zz02|refine zz10 ?_ GE339.out)|exact HB.out)) hb)
      clear BK339
      clear HB
      have HO349 := n0_
      have BK339 := n1_
      have HB := n2_
      clear n0_ n1_ n2_
      (try clear hb)
      (try clear hb2)
      (try clear hk)
      (try clear hi)
      (try clear ho0)
      obtain ⟨Ao38, co38, eo38⟩ := Kd.R_slice HO349.out
      (first | subst eo38 | (injection eo38 with f1_ f2_ f3_; have f4_ := f1_.symm; have f5_ := f3_.symm; clear f1_ f2_ f3_; subst f4_; subst f5_))
      have p350 : 0 ≤ ((ji29) : Int) := zz31 (by first | (with_reducible assumption) | assumption)
      have q350 : (ji29) < (t347.length : Int) := zz31 (by first | (with_reducible assumption) | assumption)
      obtain ⟨ad350, e350, hx350_0⟩ := Kd.at_string (Kd.R_reads' HO349.out).2.2 (ji29) p350 q350
      cases e350
      replace p350 := eq_true p350
      replace q350 := eq_true q350
      refine hK.out _ _ ⟨(zz18 BK339.out 0).trans rfl, (zz18 BK339.out 1).trans rfl⟩ (fun hHeld => ?_)
      clear hK K
      refine norm_ (a' := ?_) ?_ ?_
      rotate_left
      ·
       show Act.put _ (some 26) _ = _
       simp only [Act.put, zz11, zz12, zz13, i64_w, i32_w]
       rfl
      refine pure_ (i:=4) (N:=some 30) (v:=?_) (a':=?_) #[true,true,true,true,true,false,false,false] rfl rfl (any_of HT_.out (by kernel_rfl)) (fun _ _ _ h=>h) (Or.inl ⟨by rfl,?_⟩) ?_ ?_
      rotate_left
      ·
       intro w'
       go_simp
       with_reducible rfl
      rotate_left
      ·
       simp only [Act.put, zz11, zz12, zz13, i64_w, i32_w]
       rfl
      refine one_ (i := 5) (N := some 31) #[true, true, true, true, true, true, false, false] rfl rfl (one_of HT_.out (by kernel_rfl)) (by decide) (fun K hK => ?_)
      rw [if_pos (by rfl)]
      unfold Oper.wp
      go_simp
      refine hK.out _ _ ⟨(zz18 BK339.out 0).trans rfl, (zz18 BK339.out 1).trans rfl⟩ (fun hHeld => ?_)
      clear hK K
      refine pure_ (i:=6) (N:=some 4) (v:=?_) (a':=?_) #[true,true,true,true,true,true,true,false] rfl rfl (any_of HT_.out (by kernel_rfl)) (fun _ _ _ h=>h) (Or.inl ⟨by rfl,?_⟩) ?_ ?_
      rotate_left
      ·
       intro w'
       go_simp
       with_reducible rfl
      rotate_left
      ·
       simp only [Act.put, zz11, zz12, zz13, i64_w, i32_w]
       rfl
      refine pure_ (i := 7) (N := some 5) (v := ?_) (a' := ?_) #[true, true, true, true, true, true, true, true] rfl rfl (any_of HT_.out (by kernel_rfl)) (fun _ _ _ h => h) (Or.inl ⟨by rfl, ?_⟩) ?_ ?_
      rotate_left
      ·
       intro w'
       go_simp
       with_reducible rfl
      rotate_left
      ·
       simp only [Act.put, zz11, zz12, zz13, i64_w, i32_w]
       rfl
      refine done_ (done_of HT_.out (by kernel_rfl)) ?_
      try go_wp2
      go_ret2
      exact ⟨by first|rfl|(simp [errW_none,errW_some] <;> rfl)|(simp only [← hji29];first|rfl|(simp [errW_none,errW_some] <;> rfl))|(simp [*,errW_none,errW_some] <;> rfl),by repeat (first|(with_reducible first|exact HB.out|apply zz03|apply zz01|apply zz02|refine zz10 ?_ GE339.out)|exact HB.out)⟩
     ·
      rw [if_neg c31] at H
      exact absurd H (by simp)
    ·
     rw [if_neg c30] at H
     exact absurd H (by simp)
 ·
  rw [if_neg c4] at H
  have c4b0 : (t341 == 0) = false := zz27.mpr c4
  have c4b1 : (t341 != 0) = true := zz28.mpr c4
  simp only [zz15, zz16] at H
  obtain ⟨rfl, rfl⟩ := H
  go_enter Tryz.func17, Tryz.ntmps17
  go_wp2_with (first|((with_reducible refine zz24 (N:=3) rfl ?_);refine zz30 ?hg (N:=3) ?hd (cs:=#[.int .i64 a1_0,.bool a1_1]) (t:=32) ?hr ?_;(case hd=>rfl);(case hg=>rfl);(case hr=>first|(go_simp;done)|(go_simp;rfl));intro gb339 hg w39 hbox hb;have n0_:=zz00 (zz21 (by repeat (first|(with_reducible first|exact HB.out|apply zz03|apply zz01|apply zz02)|exact HB.out)) hb);have n1_:=zz00 (hbox);have n2_:=zz00 ((by rw [hg];exact (zz22 (by repeat (first|(with_reducible first|exact HB.out|apply zz03|apply zz01|apply zz02)|exact HB.out))) : w.heap.size ≤ gb339));have n3_:=zz00 ((by rw [hg];exact (zz22 (by repeat (first|(with_reducible first|exact HB.out|apply zz03|apply zz01|apply zz02)|exact HB.out))) : w.heap.size ≤ gb339));clear HB;have HB:=n0_;have BK339:=n1_;have GW339:=n2_;have GE339:=n3_;clear n0_ n1_ n2_ n3_;clear hb hbox hg;have hcz40_0 : w39.cell? ⟨gb339,0,none⟩ = some (.int .i64 a1_0):=(zz18 BK339.out 0).trans rfl;have hcz40_1 : w39.cell? ⟨gb339,1,none⟩ = some (.bool a1_1):=(zz18 BK339.out 1).trans rfl;have hfz40_0:=zz17 BK339.out 0;have hfz40_1:=zz17 BK339.out 1)|((with_reducible refine zz23 (f:=48) rfl ?_);refine zz25 (some 11) rfl rfl Tryz.func48 (by kernel_rfl) rfl #[.int .i64 a0,.agg #[.int .i64 a1_0,.bool a1_1]] rfl (by (try simp only [List.map_toArray,List.map_cons,List.map_nil]);first|done|rfl|(simp only [List.length_drop,List.length_take];rfl)) ?_;(with_reducible refine (almanackerref10_Last.calls k a0 a1_0 a1_1 t340 t341 _ A3.out).mono ?_);rintro e w41 ⟨rfl,hb⟩;refine ⟨_,rfl,?_⟩;have n0_:=zz00 (zz34 (g:=gb339) (o:=.cells #[.int .i64 a1_0,.bool a1_1] 32 (0,0)) (by (with_reducible repeat (first|refine zz07 ?_ _|refine zz09 ?_|refine zz08 ?_ _));exact BK339.out) hb);have n1_:=zz00 (zz21 (by repeat (first|(with_reducible first|exact HB.out|apply zz03|apply zz01|apply zz02|refine zz10 ?_ GE339.out)|exact HB.out)) hb);clear BK339;clear HB;have BK339:=n0_;have HB:=n1_;clear n0_ n1_;(try clear hb);(try clear hb2);(try clear hk);(try clear hi)))
  go_ret2
  exact ⟨by first|rfl|(simp [errW_none,errW_some] <;> rfl)|(simp [*,errW_none,errW_some] <;> rfl),by repeat (first|(with_reducible first|exact HB.out|apply zz03|apply zz01|apply zz02|refine zz10 ?_ GE339.out)|exact HB.out)⟩

def almanackerref10_Check.f (k : Nat) (a0_0 : Int) (a0_1 : Int) (a0_2 : Bool) (a0_3 : Int) : Option (Int) := (almanackerref10_Last.f k a0_0 a0_1 a0_2).bind fun bt352 => (if bt352.2 = 0 then (if a0_3 < 1 then (some 4) else (if a0_3 > bt352.1 then (some 4) else (some 0))) else (some bt352.2))
set_option maxHeartbeats 8000000 in
set_option maxRecDepth 100000 in
theorem almanackerref10_Check.calls (k : Nat) (a0_0 : Int) (a0_1 : Int) (a0_2 : Bool) (a0_3 : Int) (r : Int) (w : World) (h : almanackerref10_Check.f k a0_0 a0_1 a0_2 a0_3 = some r) :
  Calls Tryz.prog 22 #[.agg #[.int .i64 a0_0, .int .i64 a0_1, .bool a0_2, .int .i64 a0_3]] w fun e w' => e = .returned (.int .i64 r) ∧ Below w.heap.size w w' := by
 have hu34 := Tryz.underlying34
 have hu32 := Tryz.underlying32
 have HB := zz00 (Below.refl w.heap.size w)
 have H : ((almanackerref10_Last.f k a0_0 a0_1 a0_2).bind fun bt352=>(if bt352.2 = 0 then (if a0_3 < 1 then (some 4) else (if a0_3 > bt352.1 then (some 4) else (some 0))) else (some bt352.2))) = some r:=h
 clear h
 replace H := zz14.mp H
 obtain ⟨⟨t352, t353⟩, A20, H⟩ := H
 replace H : (if t353 = 0 then (if a0_3 < 1 then (some 4) else (if a0_3 > t352 then (some 4) else (some 0))) else (some t353)) = some r := H
 have A2 := zz00 A20
 clear A20
 by_cases c3 : t353 = 0
 ·
  rw [if_pos c3] at H
  have c3b0 : (t353 == 0) = true := zz29.mpr c3
  have c3b1 : (t353 != 0) = false := zz26.mpr c3
  clear c3
  by_cases c4 : a0_3 < 1
  ·
   rw [if_pos c4] at H
   have c4b0 : decide (a0_3 < 1) = true := decide_eq_true c4
   clear c4
   obtain rfl := Option.some.inj H
   go_enter Tryz.func22, Tryz.ntmps22
   go_wp2_with (first|((with_reducible refine zz24 (N:=1) rfl ?_);refine zz30 ?hg (N:=1) ?hd (cs:=#[.int .i64 a0_0,.int .i64 a0_1,.bool a0_2,.int .i64 a0_3]) (t:=34) ?hr ?_;(case hd=>rfl);(case hg=>rfl);(case hr=>first|(go_simp;done)|(go_simp;rfl));intro gb351 hg w5 hbox hb;have n0_:=zz00 (zz21 (by repeat (first|(with_reducible first|exact HB.out|apply zz03|apply zz01|apply zz02)|exact HB.out)) hb);have n1_:=zz00 (hbox);have n2_:=zz00 ((by rw [hg];exact (zz22 (by repeat (first|(with_reducible first|exact HB.out|apply zz03|apply zz01|apply zz02)|exact HB.out))) : w.heap.size ≤ gb351));have n3_:=zz00 ((by rw [hg];exact (zz22 (by repeat (first|(with_reducible first|exact HB.out|apply zz03|apply zz01|apply zz02)|exact HB.out))) : w.heap.size ≤ gb351));clear HB;have HB:=n0_;have BK351:=n1_;have GW351:=n2_;have GE351:=n3_;clear n0_ n1_ n2_ n3_;clear hb hbox hg;have hcz6_0 : w5.cell? ⟨gb351,0,none⟩ = some (.int .i64 a0_0):=(zz18 BK351.out 0).trans rfl;have hcz6_1 : w5.cell? ⟨gb351,1,none⟩ = some (.int .i64 a0_1):=(zz18 BK351.out 1).trans rfl;have hcz6_2 : w5.cell? ⟨gb351,2,none⟩ = some (.bool a0_2):=(zz18 BK351.out 2).trans rfl;have hcz6_3 : w5.cell? ⟨gb351,3,none⟩ = some (.int .i64 a0_3):=(zz18 BK351.out 3).trans rfl;have hfz6_0:=zz17 BK351.out 0;have hfz6_1:=zz17 BK351.out 1;have hfz6_2:=zz17 BK351.out 2;have hfz6_3:=zz17 BK351.out 3)|((with_reducible refine zz23 (f:=48) rfl ?_);refine zz25 (some 10) rfl rfl Tryz.func48 (by kernel_rfl) rfl #[.int .i64 a0_0,.agg #[.int .i64 a0_1,.bool a0_2]] rfl (by (try simp only [List.map_toArray,List.map_cons,List.map_nil]);first|done|rfl|(simp only [List.length_drop,List.length_take];rfl)) ?_;(with_reducible refine (almanackerref10_Last.calls k a0_0 a0_1 a0_2 t352 t353 _ A2.out).mono ?_);rintro e w7 ⟨rfl,hb⟩;refine ⟨_,rfl,?_⟩;have n0_:=zz00 (zz34 (g:=gb351) (o:=.cells #[.int .i64 a0_0,.int .i64 a0_1,.bool a0_2,.int .i64 a0_3] 34 (0,0)) (by (with_reducible repeat (first|refine zz07 ?_ _|refine zz09 ?_|refine zz08 ?_ _));exact BK351.out) hb);have n1_:=zz00 (zz21 (by repeat (first|(with_reducible first|exact HB.out|apply zz03|apply zz01|apply zz02|refine zz10 ?_ GE351.out)|exact HB.out)) hb);clear BK351;clear HB;have BK351:=n0_;have HB:=n1_;clear n0_ n1_;(try clear hb);(try clear hb2);(try clear hk);(try clear hi);have hcz8_0 : w7.cell? ⟨gb351,0,none⟩ = some (.int .i64 a0_0):=(zz18 BK351.out 0).trans rfl;have hcz8_1 : w7.cell? ⟨gb351,1,none⟩ = some (.int .i64 a0_1):=(zz18 BK351.out 1).trans rfl;have hcz8_2 : w7.cell? ⟨gb351,2,none⟩ = some (.bool a0_2):=(zz18 BK351.out 2).trans rfl;have hcz8_3 : w7.cell? ⟨gb351,3,none⟩ = some (.int .i64 a0_3):=(zz18 BK351.out 3).trans rfl;have hfz8_0:=zz17 BK351.out 0;have hfz8_1:=zz17 BK351.out 1;have hfz8_2:=zz17 BK351.out 2;have hfz8_3:=zz17 BK351.out 3))
   go_ret
   exact ⟨by first|rfl|(simp [errW_none,errW_some] <;> rfl)|(simp [*,errW_none,errW_some] <;> rfl),by repeat (first|(with_reducible first|exact HB.out|apply zz03|apply zz01|apply zz02|refine zz10 ?_ GE351.out)|exact HB.out)⟩
  ·
   rw [if_neg c4] at H
   have c4b0 : decide (a0_3 < 1) = false := decide_eq_false c4
   clear c4
   by_cases c9 : a0_3 > t352
   ·
    rw [if_pos c9] at H
    have c9b0 : decide (t352 < a0_3) = true := decide_eq_true c9
    clear c9
    obtain rfl := Option.some.inj H
    go_enter Tryz.func22, Tryz.ntmps22
    go_wp2_with (first|((with_reducible refine zz24 (N:=1) rfl ?_);refine zz30 ?hg (N:=1) ?hd (cs:=#[.int .i64 a0_0,.int .i64 a0_1,.bool a0_2,.int .i64 a0_3]) (t:=34) ?hr ?_;(case hd=>rfl);(case hg=>rfl);(case hr=>first|(go_simp;done)|(go_simp;rfl));intro gb351 hg w10 hbox hb;have n0_:=zz00 (zz21 (by repeat (first|(with_reducible first|exact HB.out|apply zz03|apply zz01|apply zz02)|exact HB.out)) hb);have n1_:=zz00 (hbox);have n2_:=zz00 ((by rw [hg];exact (zz22 (by repeat (first|(with_reducible first|exact HB.out|apply zz03|apply zz01|apply zz02)|exact HB.out))) : w.heap.size ≤ gb351));have n3_:=zz00 ((by rw [hg];exact (zz22 (by repeat (first|(with_reducible first|exact HB.out|apply zz03|apply zz01|apply zz02)|exact HB.out))) : w.heap.size ≤ gb351));clear HB;have HB:=n0_;have BK351:=n1_;have GW351:=n2_;have GE351:=n3_;clear n0_ n1_ n2_ n3_;clear hb hbox hg;have hcz11_0 : w10.cell? ⟨gb351,0,none⟩ = some (.int .i64 a0_0):=(zz18 BK351.out 0).trans rfl;have hcz11_1 : w10.cell? ⟨gb351,1,none⟩ = some (.int .i64 a0_1):=(zz18 BK351.out 1).trans rfl;have hcz11_2 : w10.cell? ⟨gb351,2,none⟩ = some (.bool a0_2):=(zz18 BK351.out 2).trans rfl;have hcz11_3 : w10.cell? ⟨gb351,3,none⟩ = some (.int .i64 a0_3):=(zz18 BK351.out 3).trans rfl;have hfz11_0:=zz17 BK351.out 0;have hfz11_1:=zz17 BK351.out 1;have hfz11_2:=zz17 BK351.out 2;have hfz11_3:=zz17 BK351.out 3)|((with_reducible refine zz23 (f:=48) rfl ?_);refine zz25 (some 10) rfl rfl Tryz.func48 (by kernel_rfl) rfl #[.int .i64 a0_0,.agg #[.int .i64 a0_1,.bool a0_2]] rfl (by (try simp only [List.map_toArray,List.map_cons,List.map_nil]);first|done|rfl|(simp only [List.length_drop,List.length_take];rfl)) ?_;(with_reducible refine (almanackerref10_Last.calls k a0_0 a0_1 a0_2 t352 t353 _ A2.out).mono ?_);rintro e w12 ⟨rfl,hb⟩;refine ⟨_,rfl,?_⟩;have n0_:=zz00 (zz34 (g:=gb351) (o:=.cells #[.int .i64 a0_0,.int .i64 a0_1,.bool a0_2,.int .i64 a0_3] 34 (0,0)) (by (with_reducible repeat (first|refine zz07 ?_ _|refine zz09 ?_|refine zz08 ?_ _));exact BK351.out) hb);have n1_:=zz00 (zz21 (by repeat (first|(with_reducible first|exact HB.out|apply zz03|apply zz01|apply zz02|refine zz10 ?_ GE351.out)|exact HB.out)) hb);clear BK351;clear HB;have BK351:=n0_;have HB:=n1_;clear n0_ n1_;(try clear hb);(try clear hb2);(try clear hk);(try clear hi);have hcz13_0 : w12.cell? ⟨gb351,0,none⟩ = some (.int .i64 a0_0):=(zz18 BK351.out 0).trans rfl;have hcz13_1 : w12.cell? ⟨gb351,1,none⟩ = some (.int .i64 a0_1):=(zz18 BK351.out 1).trans rfl;have hcz13_2 : w12.cell? ⟨gb351,2,none⟩ = some (.bool a0_2):=(zz18 BK351.out 2).trans rfl;have hcz13_3 : w12.cell? ⟨gb351,3,none⟩ = some (.int .i64 a0_3):=(zz18 BK351.out 3).trans rfl;have hfz13_0:=zz17 BK351.out 0;have hfz13_1:=zz17 BK351.out 1;have hfz13_2:=zz17 BK351.out 2;have hfz13_3:=zz17 BK351.out 3))
    go_ret
    exact ⟨by first|rfl|(simp [errW_none,errW_some] <;> rfl)|(simp [*,errW_none,errW_some] <;> rfl),by repeat (first|(with_reducible first|exact HB.out|apply zz03|apply zz01|apply zz02|refine zz10 ?_ GE351.out)|exact HB.out)⟩
   ·
    rw [if_neg c9] at H
    have c9b0 : decide (t352 < a0_3) = false := decide_eq_false c9
    clear c9
    obtain rfl := Option.some.inj H
    go_enter Tryz.func22, Tryz.ntmps22
    go_wp2_with (first|((with_reducible refine zz24 (N:=1) rfl ?_);refine zz30 ?hg (N:=1) ?hd (cs:=#[.int .i64 a0_0,.int .i64 a0_1,.bool a0_2,.int .i64 a0_3]) (t:=34) ?hr ?_;(case hd=>rfl);(case hg=>rfl);(case hr=>first|(go_simp;done)|(go_simp;rfl));intro gb351 hg w14 hbox hb;have n0_:=zz00 (zz21 (by repeat (first|(with_reducible first|exact HB.out|apply zz03|apply zz01|apply zz02)|exact HB.out)) hb);have n1_:=zz00 (hbox);have n2_:=zz00 ((by rw [hg];exact (zz22 (by repeat (first|(with_reducible first|exact HB.out|apply zz03|apply zz01|apply zz02)|exact HB.out))) : w.heap.size ≤ gb351));have n3_:=zz00 ((by rw [hg];exact (zz22 (by repeat (first|(with_reducible first|exact HB.out|apply zz03|apply zz01|apply zz02)|exact HB.out))) : w.heap.size ≤ gb351));clear HB;have HB:=n0_;have BK351:=n1_;have GW351:=n2_;have GE351:=n3_;clear n0_ n1_ n2_ n3_;clear hb hbox hg;have hcz15_0 : w14.cell? ⟨gb351,0,none⟩ = some (.int .i64 a0_0):=(zz18 BK351.out 0).trans rfl;have hcz15_1 : w14.cell? ⟨gb351,1,none⟩ = some (.int .i64 a0_1):=(zz18 BK351.out 1).trans rfl;have hcz15_2 : w14.cell? ⟨gb351,2,none⟩ = some (.bool a0_2):=(zz18 BK351.out 2).trans rfl;have hcz15_3 : w14.cell? ⟨gb351,3,none⟩ = some (.int .i64 a0_3):=(zz18 BK351.out 3).trans rfl;have hfz15_0:=zz17 BK351.out 0;have hfz15_1:=zz17 BK351.out 1;have hfz15_2:=zz17 BK351.out 2;have hfz15_3:=zz17 BK351.out 3)|((with_reducible refine zz23 (f:=48) rfl ?_);refine zz25 (some 10) rfl rfl Tryz.func48 (by kernel_rfl) rfl #[.int .i64 a0_0,.agg #[.int .i64 a0_1,.bool a0_2]] rfl (by (try simp only [List.map_toArray,List.map_cons,List.map_nil]);first|done|rfl|(simp only [List.length_drop,List.length_take];rfl)) ?_;(with_reducible refine (almanackerref10_Last.calls k a0_0 a0_1 a0_2 t352 t353 _ A2.out).mono ?_);rintro e w16 ⟨rfl,hb⟩;refine ⟨_,rfl,?_⟩;have n0_:=zz00 (zz34 (g:=gb351) (o:=.cells #[.int .i64 a0_0,.int .i64 a0_1,.bool a0_2,.int .i64 a0_3] 34 (0,0)) (by (with_reducible repeat (first|refine zz07 ?_ _|refine zz09 ?_|refine zz08 ?_ _));exact BK351.out) hb);have n1_:=zz00 (zz21 (by repeat (first|(with_reducible first|exact HB.out|apply zz03|apply zz01|apply zz02|refine zz10 ?_ GE351.out)|exact HB.out)) hb);clear BK351;clear HB;have BK351:=n0_;have HB:=n1_;clear n0_ n1_;(try clear hb);(try clear hb2);(try clear hk);(try clear hi);have hcz17_0 : w16.cell? ⟨gb351,0,none⟩ = some (.int .i64 a0_0):=(zz18 BK351.out 0).trans rfl;have hcz17_1 : w16.cell? ⟨gb351,1,none⟩ = some (.int .i64 a0_1):=(zz18 BK351.out 1).trans rfl;have hcz17_2 : w16.cell? ⟨gb351,2,none⟩ = some (.bool a0_2):=(zz18 BK351.out 2).trans rfl;have hcz17_3 : w16.cell? ⟨gb351,3,none⟩ = some (.int .i64 a0_3):=(zz18 BK351.out 3).trans rfl;have hfz17_0:=zz17 BK351.out 0;have hfz17_1:=zz17 BK351.out 1;have hfz17_2:=zz17 BK351.out 2;have hfz17_3:=zz17 BK351.out 3))
    go_ret
    exact ⟨by first|rfl|(simp [errW_none,errW_some] <;> rfl)|(simp [*,errW_none,errW_some] <;> rfl),by repeat (first|(with_reducible first|exact HB.out|apply zz03|apply zz01|apply zz02|refine zz10 ?_ GE351.out)|exact HB.out)⟩
 ·
  rw [if_neg c3] at H
  have c3b0 : (t353 == 0) = false := zz27.mpr c3
  have c3b1 : (t353 != 0) = true := zz28.mpr c3
  obtain rfl := Option.some.inj H
  go_enter Tryz.func22, Tryz.ntmps22
  go_wp2_with (first|((with_reducible refine zz24 (N:=1) rfl ?_);refine zz30 ?hg (N:=1) ?hd (cs:=#[.int .i64 a0_0,.int .i64 a0_1,.bool a0_2,.int .i64 a0_3]) (t:=34) ?hr ?_;(case hd=>rfl);(case hg=>rfl);(case hr=>first|(go_simp;done)|(go_simp;rfl));intro gb351 hg w18 hbox hb;have n0_:=zz00 (zz21 (by repeat (first|(with_reducible first|exact HB.out|apply zz03|apply zz01|apply zz02)|exact HB.out)) hb);have n1_:=zz00 (hbox);have n2_:=zz00 ((by rw [hg];exact (zz22 (by repeat (first|(with_reducible first|exact HB.out|apply zz03|apply zz01|apply zz02)|exact HB.out))) : w.heap.size ≤ gb351));have n3_:=zz00 ((by rw [hg];exact (zz22 (by repeat (first|(with_reducible first|exact HB.out|apply zz03|apply zz01|apply zz02)|exact HB.out))) : w.heap.size ≤ gb351));clear HB;have HB:=n0_;have BK351:=n1_;have GW351:=n2_;have GE351:=n3_;clear n0_ n1_ n2_ n3_;clear hb hbox hg;have hcz19_0 : w18.cell? ⟨gb351,0,none⟩ = some (.int .i64 a0_0):=(zz18 BK351.out 0).trans rfl;have hcz19_1 : w18.cell? ⟨gb351,1,none⟩ = some (.int .i64 a0_1):=(zz18 BK351.out 1).trans rfl;have hcz19_2 : w18.cell? ⟨gb351,2,none⟩ = some (.bool a0_2):=(zz18 BK351.out 2).trans rfl;have hcz19_3 : w18.cell? ⟨gb351,3,none⟩ = some (.int .i64 a0_3):=(zz18 BK351.out 3).trans rfl;have hfz19_0:=zz17 BK351.out 0;have hfz19_1:=zz17 BK351.out 1;have hfz19_2:=zz17 BK351.out 2;have hfz19_3:=zz17 BK351.out 3)|((with_reducible refine zz23 (f:=48) rfl ?_);refine zz25 (some 10) rfl rfl Tryz.func48 (by kernel_rfl) rfl #[.int .i64 a0_0,.agg #[.int .i64 a0_1,.bool a0_2]] rfl (by (try simp only [List.map_toArray,List.map_cons,List.map_nil]);first|done|rfl|(simp only [List.length_drop,List.length_take];rfl)) ?_;(with_reducible refine (almanackerref10_Last.calls k a0_0 a0_1 a0_2 t352 t353 _ A2.out).mono ?_);rintro e w20 ⟨rfl,hb⟩;refine ⟨_,rfl,?_⟩;have n0_:=zz00 (zz34 (g:=gb351) (o:=.cells #[.int .i64 a0_0,.int .i64 a0_1,.bool a0_2,.int .i64 a0_3] 34 (0,0)) (by (with_reducible repeat (first|refine zz07 ?_ _|refine zz09 ?_|refine zz08 ?_ _));exact BK351.out) hb);have n1_:=zz00 (zz21 (by repeat (first|(with_reducible first|exact HB.out|apply zz03|apply zz01|apply zz02|refine zz10 ?_ GE351.out)|exact HB.out)) hb);clear BK351;clear HB;have BK351:=n0_;have HB:=n1_;clear n0_ n1_;(try clear hb);(try clear hb2);(try clear hk);(try clear hi)))
  go_ret
  exact ⟨by first|rfl|(simp [errW_none,errW_some] <;> rfl)|(simp [*,errW_none,errW_some] <;> rfl),by repeat (first|(with_reducible first|exact HB.out|apply zz03|apply zz01|apply zz02|refine zz10 ?_ GE351.out)|exact HB.out)⟩

end Go.Proofs.YtflpddhoiafhcaaGreatDoor.R
end
