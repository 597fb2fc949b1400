/- Texts of the proof of 'NameTells', joined by a program (part 4): contracts of functions, plain laws. -/
import Derived.Test.YtflpddhoiafhcaaGreatDoorJNameTells0
import Derived.Test.YtflpddhoiafhcaaGreatDoorJNameTells2
import Derived.Test.YtflpddhoiafhcaaGreatDoorJNameTells3
set_option linter.unusedVariables false
set_option linter.unusedSimpArgs false
set_option linter.unusedSectionVars false
section
-- Written by wip/hprint.py of this repo (holes typed by hand, all else by a program) over the seat YtflpddhoiafhcaaGreatDoor.
namespace Go.Proofs.YtflpddhoiafhcaaGreatDoor.R
open Go.Proofs.YtflpddhoiafhcaaGreatDoor.H
open Go.RowKit Go.Proofs.YtflpddhoiafhcaaGreatDoorW.PrintWords Go.Proofs.YtflpddhoiafhcaaGreatDoorW.PrintLast Go.Proofs.YtflpddhoiafhcaaGreatDoorW.PrintMore
attribute [local go_sem] max2_int min2_int max_two min_two max_three min_three max_four min_four   -- for this text's walks alone
set_option linter.unusedVariables false
set_option linter.unusedSimpArgs false

def name_Month.f (y n : Int) (l : Bool) : Option (ByteArray × Int) := (heb_Last.f 30 y n l).bind fun r => if r.2 = 0 then (if l = true then some (Cal.adar1, 0) else if n = 6 then ((name_leap.f y).bind fun b => if b = true then some (Cal.adar2, 0) else some (Cal.nameAt 5, 0)) else if 1 ≤ n ∧ n ≤ 12 then some (Cal.nameAt (n - 1), 0) else none) else some (⟨#[]⟩, r.2)
set_option maxHeartbeats 4000000 in
set_option maxRecDepth 100000 in
theorem name_Month.calls (y n : Int) (l : Bool) (r1 : ByteArray) (r2 : Int) (w : World) (HGN : GlobN w) (HGT : GlobT w) (h : name_Month.f y n l = some (r1, r2)) :
    Calls Tryz.prog 16 #[.int .i64 y, .agg #[.int .i64 n, .bool l]] w fun e w' => e = .returned (.tuple #[.string r1, .int .i64 r2]) ∧ Below w.heap.size w w' := by
  unfold name_Month.f at h
  obtain ⟨⟨v, e0⟩, hL, h⟩ := Option.bind_eq_some_iff.1 h
  simp only at h
  have HBA := below_alloc (Below.refl w.heap.size w) (Obj.cells #[.int .i64 n, .bool l] 32)
  have HB0 := Aside0.mk HBA
  have HG0 := Aside0.mk (HGT.below HBA)
  have HN0 := Aside0.mk (HGN.below HBA)
  have HK0 := Aside0.mk (show (w.alloc (Obj.cells #[.int .i64 n, .bool l] 32)).heap[w.heap.size]? = some (.cells #[.int .i64 n, .bool l] 32 (0, 0)) from blk_new w _)
  have H := Aside0.mk h
  have HL : Aside0 (∀ V, GlobT V → Calls Tryz.prog 46 #[.int .i64 y, .agg #[.int .i64 n, .bool l]] V fun e w' => e = .returned (.tuple #[.int .i64 v, .int .i64 e0]) ∧ Below V.heap.size V w') := ⟨fun V hV => heb_Last.calls 30 y n l v e0 V hV hL⟩
  have HS0 := Aside0.mk HBA.size
  clear h hL HBA
  go_enter Tryz.func16, Tryz.ntmps16
  go_wp2_with fail
  generalize w.alloc (Obj.cells #[.int .i64 n, .bool l] 32) = W at HB0 HG0 HN0 HK0 HS0 ⊢
  refine (HL.out _ HG0.out).mono ?_
  rintro e W1 ⟨rfl, hb1⟩
  have HB1 := Aside0.mk (HB0.out.trans (hb1.mono HS0.out))
  have HK1 := Aside0.mk (blk_below HK0.out hb1)
  have HN1 := Aside0.mk (HN0.out.below hb1)
  clear hb1 HL HG0 HN0 HK0
  have c0 : W1.cell? ⟨w.heap.size, 0, none⟩ = some (.int .i64 n) := (blk_cell HK1.out 0).trans rfl
  have c1 : W1.cell? ⟨w.heap.size, 1, none⟩ = some (.bool l) := (blk_cell HK1.out 1).trans rfl
  have H2 := H.out
  clear H
  by_cases he : e0 = 0
  · subst he
    rw [if_pos rfl] at H2
    by_cases hl : l = true
    · subst hl
      rw [if_pos rfl] at H2
      have h' := Option.some.inj H2
      simp only [Prod.mk.injEq] at h'
      obtain ⟨rfl, rfl⟩ := h'
      clear H2
      go_wp2_with fail
      go_ret2
      exact ⟨rfl, HB1.out⟩
    · obtain rfl : l = false := by simpa using hl
      rw [if_neg (by decide)] at H2
      by_cases hn : n = 6
      · subst hn
        rw [if_pos rfl] at H2
        obtain ⟨b, hb, H3⟩ := Option.bind_eq_some_iff.1 H2
        have HLP : Aside0 (∀ V, Calls Tryz.prog 47 #[.int .i64 y] V fun e w' => e = .returned (.bool b) ∧ Drawn0 V w') := ⟨fun V => name_leap.calls y b V hb⟩
        have HNA := HN1.out
        clear H2 hb
        cases b with
        | true =>
          rw [if_pos rfl] at H3
          have h' := Option.some.inj H3
          simp only [Prod.mk.injEq] at h'
          obtain ⟨rfl, rfl⟩ := h'
          clear H3
          go_wp2_with (go_at_call 47; refine (HLP.out _).mono ?_; rintro e W2 ⟨rfl, hb2⟩; have HB2 := Aside0.mk (HB1.out.trans (hb2.below.mono HB1.out.size)); clear hb2 c0 c1)
          go_ret2
          exact ⟨rfl, HB2.out⟩
        | false =>
          rw [if_neg (by decide)] at H3
          have h' := Option.some.inj H3
          simp only [Prod.mk.injEq] at h'
          obtain ⟨rfl, rfl⟩ := h'
          clear H3
          go_wp2_with (go_at_call 47; refine (HLP.out _).mono ?_; rintro e W2 ⟨rfl, hb2⟩; have HB2 := Aside0.mk (HB1.out.trans (hb2.below.mono HB1.out.size)); have HK2 := Aside0.mk (blk_below HK1.out hb2.below); have hc5 := (HN1.out.drawn hb2).adar; have c0' : W2.cell? ⟨w.heap.size, 0, none⟩ = some (.int .i64 6) := (blk_cell HK2.out 0).trans rfl; have c1' : W2.cell? ⟨w.heap.size, 1, none⟩ = some (.bool false) := (blk_cell HK2.out 1).trans rfl; clear hb2 c0 c1)
          go_ret2
          exact ⟨rfl, HB2.out⟩
      · rw [if_neg hn] at H2
        by_cases hr : 1 ≤ n ∧ n ≤ 12
        · rw [if_pos hr] at H2
          have h' := Option.some.inj H2
          simp only [Prod.mk.injEq] at h'
          obtain ⟨rfl, rfl⟩ := h'
          obtain ⟨j, hj⟩ : ∃ j, n - 1 = j := ⟨_, rfl⟩
          have j0 : 0 ≤ j := by omega
          have j1 : j < 12 := by omega
          have hc := HN1.out.at_ j j0 j1
          have hw : wrap64 (n - 1) = j := by unfold wrap64; omega
          have bn : (n == 6) = false := beq_eq_false_iff_ne.mpr hn
          have HJ := Aside0.mk hj
          clear H2 hn hr hj
          go_wp2_with fail
          go_ret2
          exact ⟨by rw [HJ.out]; rfl, HB1.out⟩
        · rw [if_neg hr] at H2
          cases H2
  · rw [if_neg he] at H2
    have h' := Option.some.inj H2
    simp only [Prod.mk.injEq] at h'
    obtain ⟨rfl, rfl⟩ := h'
    have he2 : (e0 != 0) = true := by simpa using he
    clear H2 he
    go_wp2_with fail
    go_ret2
    exact ⟨rfl, HB1.out⟩

def heb_look.f (k : Nat) (a0_0 : Int) (a0_1 : Int) (a0_2 : Bool) (a0_3 : Int) : Option (Int × Int × Bool × Int × Int) := (heb_find.f k a0_0 a0_1 a0_2).bind fun bt183 => (if bt183.2.2.2.2 = 0 then (if a0_3 < 1 then (some (0, 0, false, 0, 4)) else ((month_Days.f bt183.1 bt183.2.1 bt183.2.2.1 bt183.2.2.2.1).bind fun t189 => (if a0_3 > t189 then (some (0, 0, false, 0, 4)) else (some (bt183.1, bt183.2.1, bt183.2.2.1, bt183.2.2.2.1, 0))))) else (some (0, 0, false, 0, bt183.2.2.2.2)))
def heb_look.T4 : Bool × List (List Nat × List Nat) := (true, [([], []), ([0], [0]), ([1], [1]), ([2], [2]), ([3], [3]), ([4, 3], [3, 4]), ([3], [3]), ([6, 3], [3, 6]), ([3], [3]), ([8, 3], [3, 8]), ([7, 9, 3, 3], [3, 7, 9]), ([5, 10, 3], [3, 5, 10]), ([3, 11], [3, 11]), ([12, 10], [12])])
def heb_look.B4 : List Nat := [0, 1, 3, 7, 15, 31, 15, 79, 15, 271, 975, 2047, 4095, 8191]
theorem heb_look.tab4 : rtab .any (opsOf Tryz.f79 4) = heb_look.T4 := by kernel_rfl
theorem heb_look.bits4 : waitsOk heb_look.T4.2 heb_look.B4 = true := by kernel_rfl
set_option maxHeartbeats 8000000 in
set_option maxRecDepth 100000 in
theorem heb_look.calls (k : Nat) (a0_0 : Int) (a0_1 : Int) (a0_2 : Bool) (a0_3 : Int) (r1 : Int) (r2 : Int) (r3 : Bool) (r4 : Int) (r5 : Int) (w : World) (HGT : GlobT w) (h : heb_look.f k a0_0 a0_1 a0_2 a0_3 = some (r1, r2, r3, r4, r5)) :
  Calls Tryz.prog 79 #[.agg #[.int .i64 a0_0,.int .i64 a0_1,.bool a0_2,.int .i64 a0_3]] w fun e w'=>e = .returned (.tuple #[.agg #[.int .i64 r1,.int .i64 r2,.bool r3,.int .i64 r4],.int .i64 r5]) ∧ Below w.heap.size w w':=by
 have hu34 := Tryz.underlying34
 have hu95 := Tryz.underlying95
 have hu32 := Tryz.underlying32
 have hu93 := Tryz.underlying93
 have HB := zz00 (Below.refl w.heap.size w)
 have H : ((heb_find.f k a0_0 a0_1 a0_2).bind fun bt183=>(if bt183.2.2.2.2 = 0 then (if a0_3 < 1 then (some (0,0,false,0,4)) else ((month_Days.f bt183.1 bt183.2.1 bt183.2.2.1 bt183.2.2.2.1).bind fun t189=>(if a0_3 > t189 then (some (0,0,false,0,4)) else (some (bt183.1,bt183.2.1,bt183.2.2.1,bt183.2.2.2.1,0))))) else (some (0,0,false,0,bt183.2.2.2.2)))) = some (r1,r2,r3,r4,r5):=h
 clear h
 replace H := zz14.mp H
 obtain ⟨⟨t183, t184, t185, t186, t187⟩, A20, H⟩ := H
 replace H : (if t187 = 0 then (if a0_3 < 1 then (some (0,0,false,0,4)) else ((month_Days.f t183 t184 t185 t186).bind fun t189=>(if a0_3 > t189 then (some (0,0,false,0,4)) else (some (t183,t184,t185,t186,0))))) else (some (0,0,false,0,t187))) = some (r1,r2,r3,r4,r5):=H
 have A2 := zz00 A20
 clear A20
 by_cases c3 : t187 = 0
 ·
  rw [if_pos c3] at H
  have c3b0 : (t187 == 0) = true := zz29.mpr c3
  have c3b1 : (t187 != 0) = false := zz26.mpr c3
  clear c3
  by_cases c4 : a0_3 < 1
  ·
   rw [if_pos c4] at H
   have c4b0 : decide (a0_3 < 1) = true := decide_eq_true c4
   clear c4
   simp only [zz15, zz16] at H
   obtain ⟨rfl, rfl, rfl, rfl, rfl⟩ := H
   go_enter Tryz.func79, Tryz.ntmps79
   try go_wp2_with (first|((with_reducible refine zz24 (N:=1) rfl ?_);refine zz30 ?hg (N:=1) ?hd (cs:=#[.int .i64 a0_0,.int .i64 a0_1,.bool a0_2,.int .i64 a0_3]) (t:=34) ?hr ?_;(case hd=>rfl);(case hg=>rfl);(case hr=>first|(go_simp;done)|(go_simp;rfl));intro gb181 hg w5 hbox hb;have n0_:=zz00 (zz21 (by repeat (first|(with_reducible first|exact HB.out|apply zz03|apply zz01|apply zz02)|exact HB.out)) hb);have n1_:=zz00 (hbox);have n2_:=zz00 ((by rw [hg];exact (zz22 (by repeat (first|(with_reducible first|exact HB.out|apply zz03|apply zz01|apply zz02)|exact HB.out))) : w.heap.size ≤ gb181));have n3_:=zz00 ((by rw [hg];exact (zz22 (by repeat (first|(with_reducible first|exact HB.out|apply zz03|apply zz01|apply zz02)|exact HB.out))) : w.heap.size ≤ gb181));clear HB;have HB:=n0_;have BK181:=n1_;have GW181:=n2_;have GE181:=n3_;clear n0_ n1_ n2_ n3_;clear hb hbox hg)|((with_reducible refine zz24 (N:=2) rfl ?_);refine zz30 ?hg (N:=2) ?hd (cs:=#[.int .i64 0,.int .i64 0,.bool false,.int .i64 0]) (t:=95) ?hr ?_;(case hd=>rfl);(case hg=>rfl);(case hr=>first|(go_simp;done)|(go_simp;rfl));intro gb182 hg w6 hbox hb;have n0_:=zz00 (zz34 (g:=gb181) (o:=.cells #[.int .i64 a0_0,.int .i64 a0_1,.bool a0_2,.int .i64 a0_3] 34 (0,0)) (by (with_reducible repeat (first|refine zz07 ?_ _|refine zz09 ?_|refine zz08 ?_ _));exact BK181.out) hb);have n1_:=zz00 (zz21 (by repeat (first|(with_reducible first|exact HB.out|apply zz03|apply zz01|apply zz02|refine zz10 ?_ GE181.out)|exact HB.out)) hb);have n2_:=zz00 (hbox);have n3_:=zz00 ((by rw [hg];exact (zz22 (by repeat (first|(with_reducible first|exact HB.out|apply zz03|apply zz01|apply zz02|refine zz10 ?_ GE181.out)|exact HB.out))) : w.heap.size ≤ gb182));have n4_:=zz00 ((by rw [hg];exact (zz22 (by repeat (first|(with_reducible first|exact HB.out|apply zz03|apply zz01|apply zz02|refine zz10 ?_ GE181.out)|exact HB.out))) : w.heap.size ≤ gb182));have n5_:=zz00 ((by rw [hg];exact Nat.ne_of_lt (blk_lt (g:=gb181) (o:=.cells #[.int .i64 a0_0,.int .i64 a0_1,.bool a0_2,.int .i64 a0_3] 34 (0,0)) (by (with_reducible repeat (first|refine zz07 ?_ _|refine zz09 ?_|refine zz08 ?_ _));exact BK181.out)) : gb181 ≠ gb182));have n6_:=zz00 ((by rw [hg];exact Nat.ne_of_gt (blk_lt (g:=gb181) (o:=.cells #[.int .i64 a0_0,.int .i64 a0_1,.bool a0_2,.int .i64 a0_3] 34 (0,0)) (by (with_reducible repeat (first|refine zz07 ?_ _|refine zz09 ?_|refine zz08 ?_ _));exact BK181.out)) : gb182 ≠ gb181));clear BK181;clear HB;have BK181:=n0_;have HB:=n1_;have BK182:=n2_;have GW182:=n3_;have GE182:=n4_;have NB181_182:=n5_;have NB182_181:=n6_;clear n0_ n1_ n2_ n3_ n4_ n5_ n6_;clear hb hbox hg;have hnb7:=NB181_182.out;have hnc7:=NB182_181.out;have hcz8_0 : w6.cell? ⟨gb181,0,none⟩ = some (.int .i64 a0_0):=(zz18 BK181.out 0).trans rfl;have hcz8_1 : w6.cell? ⟨gb181,1,none⟩ = some (.int .i64 a0_1):=(zz18 BK181.out 1).trans rfl;have hcz8_2 : w6.cell? ⟨gb181,2,none⟩ = some (.bool a0_2):=(zz18 BK181.out 2).trans rfl;have hcz8_3 : w6.cell? ⟨gb181,3,none⟩ = some (.int .i64 a0_3):=(zz18 BK181.out 3).trans rfl;have hfz8_0:=zz17 BK181.out 0;have hfz8_1:=zz17 BK181.out 1;have hfz8_2:=zz17 BK181.out 2;have hfz8_3:=zz17 BK181.out 3)|((with_reducible refine zz23 (f:=101) rfl ?_);refine zz25 (some 11) rfl rfl Tryz.func101 (by kernel_rfl) rfl #[.int .i64 a0_0,.agg #[.int .i64 a0_1,.bool a0_2]] rfl (by (try simp only [List.map_toArray,List.map_cons,List.map_nil]);first|done|rfl|(simp only [List.length_drop,List.length_take];rfl)) ?_;(with_reducible refine (heb_find.calls k a0_0 a0_1 a0_2 t183 t184 t185 t186 t187 _ A2.out).mono ?_);rintro e w9 ⟨rfl,hb⟩;refine ⟨_,rfl,?_⟩;have n0_:=zz00 (zz34 (g:=gb181) (o:=.cells #[.int .i64 a0_0,.int .i64 a0_1,.bool a0_2,.int .i64 a0_3] 34 (0,0)) (by (with_reducible repeat (first|refine zz07 ?_ _|refine zz09 ?_|refine zz08 ?_ _));exact BK181.out) hb);have n1_:=zz00 (zz34 (g:=gb182) (o:=.cells #[.int .i64 0,.int .i64 0,.bool false,.int .i64 0] 95 (0,0)) (by (with_reducible repeat (first|refine zz07 ?_ _|refine zz09 ?_|refine zz08 ?_ _));exact BK182.out) hb);have n2_:=zz00 (zz21 (by repeat (first|(with_reducible first|exact HB.out|apply zz03|apply zz01|apply zz02|refine zz10 ?_ GE181.out|refine zz10 ?_ GE182.out)|exact HB.out)) hb);clear BK181;clear BK182;clear HB;have BK181:=n0_;have BK182:=n1_;have HB:=n2_;clear n0_ n1_ n2_;(try clear hb);(try clear hb2);(try clear hk);(try clear hi))|((with_reducible refine zz24 (N:=4) rfl ?_);refine zz30 ?hg (N:=4) ?hd (cs:=#[.int .i64 0,.int .i64 0,.bool false,.int .i64 0]) (t:=95) ?hr ?_;(case hd=>rfl);(case hg=>rfl);(case hr=>first|(go_simp;done)|(go_simp;rfl));intro gb188 hg w10 hbox hb;have n0_:=zz00 (zz34 (g:=gb181) (o:=.cells #[.int .i64 a0_0,.int .i64 a0_1,.bool a0_2,.int .i64 a0_3] 34 (0,0)) (by (with_reducible repeat (first|refine zz07 ?_ _|refine zz09 ?_|refine zz08 ?_ _));exact BK181.out) hb);have n1_:=zz00 (zz34 (g:=gb182) (o:=.cells #[.int .i64 0,.int .i64 0,.bool false,.int .i64 0] 95 (0,0)) (by (with_reducible repeat (first|refine zz07 ?_ _|refine zz09 ?_|refine zz08 ?_ _));exact BK182.out) hb);have n2_:=zz00 (zz21 (by repeat (first|(with_reducible first|exact HB.out|apply zz03|apply zz01|apply zz02|refine zz10 ?_ GE181.out|refine zz10 ?_ GE182.out)|exact HB.out)) hb);have n3_:=zz00 (hbox);have n4_:=zz00 ((by rw [hg];exact (zz22 (by repeat (first|(with_reducible first|exact HB.out|apply zz03|apply zz01|apply zz02|refine zz10 ?_ GE181.out|refine zz10 ?_ GE182.out)|exact HB.out))) : w.heap.size ≤ gb188));have n5_:=zz00 ((by rw [hg];exact (zz22 (by repeat (first|(with_reducible first|exact HB.out|apply zz03|apply zz01|apply zz02|refine zz10 ?_ GE181.out|refine zz10 ?_ GE182.out)|exact HB.out))) : w.heap.size ≤ gb188));have n6_:=zz00 ((by rw [hg];exact Nat.ne_of_lt (blk_lt (g:=gb181) (o:=.cells #[.int .i64 a0_0,.int .i64 a0_1,.bool a0_2,.int .i64 a0_3] 34 (0,0)) (by (with_reducible repeat (first|refine zz07 ?_ _|refine zz09 ?_|refine zz08 ?_ _));exact BK181.out)) : gb181 ≠ gb188));have n7_:=zz00 ((by rw [hg];exact Nat.ne_of_gt (blk_lt (g:=gb181) (o:=.cells #[.int .i64 a0_0,.int .i64 a0_1,.bool a0_2,.int .i64 a0_3] 34 (0,0)) (by (with_reducible repeat (first|refine zz07 ?_ _|refine zz09 ?_|refine zz08 ?_ _));exact BK181.out)) : gb188 ≠ gb181));have n8_:=zz00 ((by rw [hg];exact Nat.ne_of_lt (blk_lt (g:=gb182) (o:=.cells #[.int .i64 0,.int .i64 0,.bool false,.int .i64 0] 95 (0,0)) (by (with_reducible repeat (first|refine zz07 ?_ _|refine zz09 ?_|refine zz08 ?_ _));exact BK182.out)) : gb182 ≠ gb188));have n9_:=zz00 ((by rw [hg];exact Nat.ne_of_gt (blk_lt (g:=gb182) (o:=.cells #[.int .i64 0,.int .i64 0,.bool false,.int .i64 0] 95 (0,0)) (by (with_reducible repeat (first|refine zz07 ?_ _|refine zz09 ?_|refine zz08 ?_ _));exact BK182.out)) : gb188 ≠ gb182));clear BK181;clear BK182;clear HB;have BK181:=n0_;have BK182:=n1_;have HB:=n2_;have BK188:=n3_;have GW188:=n4_;have GE188:=n5_;have NB181_188:=n6_;have NB188_181:=n7_;have NB182_188:=n8_;have NB188_182:=n9_;clear n0_ n1_ n2_ n3_ n4_ n5_ n6_ n7_ n8_ n9_;clear hb hbox hg;have hnb11:=NB188_181.out;have hnc11:=NB181_188.out;have hnb12:=NB188_182.out;have hnc12:=NB182_188.out;have hcz13_0 : w10.cell? ⟨gb188,0,none⟩ = some (.int .i64 0):=(zz18 BK188.out 0).trans rfl;have hcz13_1 : w10.cell? ⟨gb188,1,none⟩ = some (.int .i64 0):=(zz18 BK188.out 1).trans rfl;have hcz13_2 : w10.cell? ⟨gb188,2,none⟩ = some (.bool false):=(zz18 BK188.out 2).trans rfl;have hcz13_3 : w10.cell? ⟨gb188,3,none⟩ = some (.int .i64 0):=(zz18 BK188.out 3).trans rfl;have hfz13_0:=zz17 BK188.out 0;have hfz13_1:=zz17 BK188.out 1;have hfz13_2:=zz17 BK188.out 2;have hfz13_3:=zz17 BK188.out 3))
   have n0_ : Aside0 (((((w10.setCell ⟨gb188,0,none⟩ (.int .i64 t183)).setCell ⟨gb188,1,none⟩ (.int .i64 t184)).setCell ⟨gb188,2,none⟩ (.bool t185)).setCell ⟨gb188,3,none⟩ (.int .i64 t186)).heap[gb181]? = some (.cells #[.int .i64 a0_0,.int .i64 a0_1,.bool a0_2,.int .i64 a0_3] 34 (0,0))):=⟨by (with_reducible repeat (first|refine zz07 ?_ _|refine zz09 ?_|refine zz08 ?_ _));refine zz33 ?_ NB181_188.out _;(with_reducible repeat (first|refine zz07 ?_ _|refine zz09 ?_|refine zz08 ?_ _));refine zz33 ?_ NB181_188.out _;(with_reducible repeat (first|refine zz07 ?_ _|refine zz09 ?_|refine zz08 ?_ _));refine zz33 ?_ NB181_188.out _;(with_reducible repeat (first|refine zz07 ?_ _|refine zz09 ?_|refine zz08 ?_ _));refine zz33 ?_ NB181_188.out _;(with_reducible repeat (first|refine zz07 ?_ _|refine zz09 ?_|refine zz08 ?_ _));exact BK181.out⟩
   have n1_ : Aside0 (((((w10.setCell ⟨gb188,0,none⟩ (.int .i64 t183)).setCell ⟨gb188,1,none⟩ (.int .i64 t184)).setCell ⟨gb188,2,none⟩ (.bool t185)).setCell ⟨gb188,3,none⟩ (.int .i64 t186)).heap[gb182]? = some (.cells #[.int .i64 0,.int .i64 0,.bool false,.int .i64 0] 95 (0,0))):=⟨by (with_reducible repeat (first|refine zz07 ?_ _|refine zz09 ?_|refine zz08 ?_ _));refine zz33 ?_ NB182_188.out _;(with_reducible repeat (first|refine zz07 ?_ _|refine zz09 ?_|refine zz08 ?_ _));refine zz33 ?_ NB182_188.out _;(with_reducible repeat (first|refine zz07 ?_ _|refine zz09 ?_|refine zz08 ?_ _));refine zz33 ?_ NB182_188.out _;(with_reducible repeat (first|refine zz07 ?_ _|refine zz09 ?_|refine zz08 ?_ _));refine zz33 ?_ NB182_188.out _;(with_reducible repeat (first|refine zz07 ?_ _|refine zz09 ?_|refine zz08 ?_ _));exact BK182.out⟩
   have n2_ : Aside0 (((((w10.setCell ⟨gb188,0,none⟩ (.int .i64 t183)).setCell ⟨gb188,1,none⟩ (.int .i64 t184)).setCell ⟨gb188,2,none⟩ (.bool t185)).setCell ⟨gb188,3,none⟩ (.int .i64 t186)).heap[gb188]? = some (.cells #[.int .i64 t183,.int .i64 t184,.bool t185,.int .i64 t186] 95 (0,0))):=⟨by (with_reducible repeat (first|refine zz07 ?_ _|refine zz09 ?_|refine zz08 ?_ _));refine zz35 (cs:=#[.int .i64 t183,.int .i64 t184,.bool t185,.int .i64 0]) ?_ 3 _ rfl;(with_reducible repeat (first|refine zz07 ?_ _|refine zz09 ?_|refine zz08 ?_ _));refine zz35 (cs:=#[.int .i64 t183,.int .i64 t184,.bool false,.int .i64 0]) ?_ 2 _ rfl;(with_reducible repeat (first|refine zz07 ?_ _|refine zz09 ?_|refine zz08 ?_ _));refine zz35 (cs:=#[.int .i64 t183,.int .i64 0,.bool false,.int .i64 0]) ?_ 1 _ rfl;(with_reducible repeat (first|refine zz07 ?_ _|refine zz09 ?_|refine zz08 ?_ _));refine zz35 (cs:=#[.int .i64 0,.int .i64 0,.bool false,.int .i64 0]) ?_ 0 _ rfl;(with_reducible repeat (first|refine zz07 ?_ _|refine zz09 ?_|refine zz08 ?_ _));exact BK188.out⟩
   have n3_ : Aside0 (Below w.heap.size w ((((w10.setCell ⟨gb188,0,none⟩ (.int .i64 t183)).setCell ⟨gb188,1,none⟩ (.int .i64 t184)).setCell ⟨gb188,2,none⟩ (.bool t185)).setCell ⟨gb188,3,none⟩ (.int .i64 t186))):=⟨by repeat (first|(with_reducible first|exact HB.out|apply zz03|apply zz01|apply zz02|refine zz10 ?_ GE181.out|refine zz10 ?_ GE182.out|refine zz10 ?_ GE188.out)|exact HB.out)⟩
   (try clear BK181)
   (try clear BK182)
   (try clear BK188)
   (try clear HB)
   generalize ((((w10.setCell ⟨gb188,0,none⟩ (.int .i64 t183)).setCell ⟨gb188,1,none⟩ (.int .i64 t184)).setCell ⟨gb188,2,none⟩ (.bool t185)).setCell ⟨gb188,3,none⟩ (.int .i64 t186)) = w14 at n0_ n1_ n2_ n3_ ⊢
   have BK181 := n0_
   have BK182 := n1_
   have BK188 := n2_
   have HB := n3_
   clear n0_ n1_ n2_ n3_
   have n0_ := zz00 (zz09 BK181.out)
   have n1_ := zz00 (zz09 BK182.out)
   have n2_ := zz00 (zz09 BK188.out)
   have n3_ := zz00 (zz02 HB.out)
   clear BK181
   clear BK182
   clear BK188
   clear HB
   have BK181 := n0_
   have BK182 := n1_
   have BK188 := n2_
   have HB := n3_
   clear n0_ n1_ n2_ n3_
   refine start_ (n:=14) (S:=fun w'=>w'.cell? ⟨gb181,0,none⟩ = some (.int .i64 a0_0) ∧ w'.cell? ⟨gb181,1,none⟩ = some (.int .i64 a0_1) ∧ w'.cell? ⟨gb181,2,none⟩ = some (.bool a0_2) ∧ w'.cell? ⟨gb181,3,none⟩ = some (.int .i64 a0_3)) (ds:=[]) #[false,false,false,false,false,false,false,false,false,false,false,false,false,false] (by kernel_rfl) rfl rfl ⟨(zz18 BK181.out 0).trans rfl,(zz18 BK181.out 1).trans rfl,(zz18 BK181.out 2).trans rfl,(zz18 BK181.out 3).trans rfl⟩ (fun hHeld=>?_);refine with_tabW heb_look.tab4 heb_look.bits4 (fun HT_ HW_=>?_)
   generalize w14.drew = w15 at BK181 BK182 BK188 HB hHeld ⊢
   refine pure_ (i:=0) (N:=some 20) (v:=?_) (a':=?_) #[true,false,false,false,false,false,false,false,false,false,false,false,false,false] rfl rfl (any_of HT_.out (by kernel_rfl)) (fun _ _ _ h=>h) (Or.inl ⟨by rfl,?_⟩) ?_ ?_
   rotate_left
   ·
    intro w'
    go_simp
    with_reducible rfl
   rotate_left
   ·
    simp only [Act.put, zz11, zz12, zz13, i64_w, i32_w]
    rfl
   refine take_ (i:=1) (N:=some 21) (v:=?_) (a':=?_) #[true,true,false,false,false,false,false,false,false,false,false,false,false,false] rfl rfl (take_ofW HT_.out HW_.out (by kernel_rfl)) (fun _ _ _ h=>h) (Or.inl ⟨by rfl,?_⟩) hHeld ?_ ?_
   rotate_left
   ·
    rintro w' ⟨s0, s1, s2, s3⟩
    go_simp
    with_reducible rfl
   rotate_left
   ·
    simp only [Act.put, zz11, zz12, zz13, i64_w, i32_w]
    rfl
   refine pure_ (i:=2) (N:=some 22) (v:=?_) (a':=?_) #[true,true,true,false,false,false,false,false,false,false,false,false,false,false] rfl rfl (any_of HT_.out (by kernel_rfl)) (fun _ _ _ h=>h) (Or.inl ⟨by rfl,?_⟩) ?_ ?_
   rotate_left
   ·
    intro w'
    go_simp
    with_reducible rfl
   rotate_left
   ·
    simp only [Act.put, zz11, zz12, zz13, i64_w, i32_w]
    rfl
   refine pure_ (i:=3) (N:=some 23) (v:=?_) (a':=?_) #[true,true,true,true,false,false,false,false,false,false,false,false,false,false] rfl rfl (any_of HT_.out (by kernel_rfl)) (fun _ _ _ h=>h) (Or.inl ⟨by rfl,?_⟩) ?_ ?_
   rotate_left
   ·
    intro w'
    go_simp
    with_reducible rfl
   rotate_left
   ·
    simp only [Act.put, zz11, zz12, zz13, i64_w, i32_w]
    rfl
   refine pure_ (i:=4) (N:=some 24) (v:=undef) (a':=?_) #[true,true,true,true,true,false,false,false,false,false,false,false,false,false] rfl rfl (any_of HT_.out (by kernel_rfl)) (fun _ _ _ h=>h) (Or.inr ⟨by rfl,rfl⟩) ?_ ?_
   rotate_left
   ·
    simp only [Act.put, zz11, zz12, zz13, i64_w, i32_w]
    rfl
   refine pure_ (i:=5) (N:=some 25) (v:=undef) (a':=?_) #[true,true,true,true,true,true,false,false,false,false,false,false,false,false] rfl rfl (any_of HT_.out (by kernel_rfl)) (fun _ _ _ h=>h) (Or.inr ⟨by rfl,rfl⟩) ?_ ?_
   rotate_left
   ·
    simp only [Act.put, zz11, zz12, zz13, i64_w, i32_w]
    rfl
   refine pure_ (i:=6) (N:=some 26) (v:=undef) (a':=?_) #[true,true,true,true,true,true,true,false,false,false,false,false,false,false] rfl rfl (any_of HT_.out (by kernel_rfl)) (fun _ _ _ h=>h) (Or.inr ⟨by rfl,rfl⟩) ?_ ?_
   rotate_left
   ·
    simp only [Act.put, zz11, zz12, zz13, i64_w, i32_w]
    rfl
   refine pure_ (i:=7) (N:=some 27) (v:=undef) (a':=?_) #[true,true,true,true,true,true,true,true,false,false,false,false,false,false] rfl rfl (any_of HT_.out (by kernel_rfl)) (fun _ _ _ h=>h) (Or.inr ⟨by rfl,rfl⟩) ?_ ?_
   rotate_left
   ·
    simp only [Act.put, zz11, zz12, zz13, i64_w, i32_w]
    rfl
   refine pure_ (i:=8) (N:=some 28) (v:=undef) (a':=?_) #[true,true,true,true,true,true,true,true,true,false,false,false,false,false] rfl rfl (any_of HT_.out (by kernel_rfl)) (fun _ _ _ h=>h) (Or.inr ⟨by rfl,rfl⟩) ?_ ?_
   rotate_left
   ·
    simp only [Act.put, zz11, zz12, zz13, i64_w, i32_w]
    rfl
   refine pure_ (i:=9) (N:=some 29) (v:=undef) (a':=?_) #[true,true,true,true,true,true,true,true,true,true,false,false,false,false] rfl rfl (any_of HT_.out (by kernel_rfl)) (fun _ _ _ h=>h) (Or.inr ⟨by rfl,rfl⟩) ?_ ?_
   rotate_left
   ·
    simp only [Act.put, zz11, zz12, zz13, i64_w, i32_w]
    rfl
   refine pure_ (i:=10) (N:=some 30) (v:=undef) (a':=?_) #[true,true,true,true,true,true,true,true,true,true,true,false,false,false] rfl rfl (any_of HT_.out (by kernel_rfl)) (fun _ _ _ h=>h) (Or.inr ⟨by rfl,rfl⟩) ?_ ?_
   rotate_left
   ·
    simp only [Act.put, zz11, zz12, zz13, i64_w, i32_w]
    rfl
   refine pure_ (i:=11) (N:=some 31) (v:=undef) (a':=?_) #[true,true,true,true,true,true,true,true,true,true,true,true,false,false] rfl rfl (any_of HT_.out (by kernel_rfl)) (fun _ _ _ h=>h) (Or.inr ⟨by rfl,rfl⟩) ?_ ?_
   rotate_left
   ·
    simp only [Act.put, zz11, zz12, zz13, i64_w, i32_w]
    rfl
   refine pure_ (i:=12) (N:=some 32) (v:=?_) (a':=?_) #[true,true,true,true,true,true,true,true,true,true,true,true,true,false] rfl rfl (any_of HT_.out (by kernel_rfl)) (fun _ _ _ h=>h) (Or.inl ⟨by rfl,?_⟩) ?_ ?_
   rotate_left
   ·
    intro w'
    go_simp
    with_reducible rfl
   rotate_left
   ·
    simp only [Act.put, zz11, zz12, zz13, i64_w, i32_w]
    rfl
   refine pure_ (i:=13) (N:=some 19) (v:=?_) (a':=?_) #[true,true,true,true,true,true,true,true,true,true,true,true,true,true] rfl rfl (any_of HT_.out (by kernel_rfl)) (fun _ _ _ h=>h) (Or.inl ⟨by rfl,?_⟩) ?_ ?_
   rotate_left
   ·
    intro w'
    go_simp
    with_reducible rfl
   rotate_left
   ·
    simp only [Act.put, zz11, zz12, zz13, i64_w, i32_w]
    rfl
   refine done_ (done_of HT_.out (by kernel_rfl)) ?_
   have hcz16_0 : w15.cell? ⟨gb182, 0, none⟩ = some (.int .i64 0) := (zz18 BK182.out 0).trans rfl
   have hcz16_1 : w15.cell? ⟨gb182, 1, none⟩ = some (.int .i64 0) := (zz18 BK182.out 1).trans rfl
   have hcz16_2 : w15.cell? ⟨gb182, 2, none⟩ = some (.bool false) := (zz18 BK182.out 2).trans rfl
   have hcz16_3 : w15.cell? ⟨gb182, 3, none⟩ = some (.int .i64 0) := (zz18 BK182.out 3).trans rfl
   have hfz16_0 := zz17 BK182.out 0
   have hfz16_1 := zz17 BK182.out 1
   have hfz16_2 := zz17 BK182.out 2
   have hfz16_3 := zz17 BK182.out 3
   try go_wp2
   refine bodyPost_ret (results_ct rfl _ _ gb182 95 #[.int .i64 0,.int .i64 0,.bool false,.int .i64 0] (0,0) _ rfl (by (with_reducible repeat (first|refine zz07 ?_ _|refine zz09 ?_|refine zz08 ?_ _));refine zz35 (cs:=#[.int .i64 0,.int .i64 0,.bool false,.int .i64 0]) ?_ 3 _ rfl;(with_reducible repeat (first|refine zz07 ?_ _|refine zz09 ?_|refine zz08 ?_ _));refine zz35 (cs:=#[.int .i64 0,.int .i64 0,.bool false,.int .i64 0]) ?_ 2 _ rfl;(with_reducible repeat (first|refine zz07 ?_ _|refine zz09 ?_|refine zz08 ?_ _));refine zz35 (cs:=#[.int .i64 0,.int .i64 0,.bool false,.int .i64 0]) ?_ 1 _ rfl;(with_reducible repeat (first|refine zz07 ?_ _|refine zz09 ?_|refine zz08 ?_ _));refine zz35 (cs:=#[.int .i64 0,.int .i64 0,.bool false,.int .i64 0]) ?_ 0 _ rfl;(with_reducible repeat (first|refine zz07 ?_ _|refine zz09 ?_|refine zz08 ?_ _));exact BK182.out) Tryz.underlying95 rfl (by kernel_rfl)) rfl ?_
   exact ⟨by first|rfl|(simp [errW_none,errW_some] <;> rfl)|(simp [*,errW_none,errW_some] <;> rfl),by repeat (first|(with_reducible first|exact HB.out|apply zz03|apply zz01|apply zz02|refine zz10 ?_ GE181.out|refine zz10 ?_ GE182.out|refine zz10 ?_ GE188.out)|exact HB.out)⟩
  ·
   rw [if_neg c4] at H
   have c4b0 : decide (a0_3 < 1) = false := decide_eq_false c4
   clear c4
   replace H := zz14.mp H
   obtain ⟨t189, A170, H⟩ := H
   replace H : (if a0_3 > t189 then (some (0, 0, false, 0, 4)) else (some (t183, t184, t185, t186, 0))) = some (r1, r2, r3, r4, r5) := H
   have A17 := zz00 A170
   clear A170
   by_cases c18 : a0_3 > t189
   ·
    rw [if_pos c18] at H
    have c18b0 : decide (t189 < a0_3) = true := decide_eq_true c18
    clear c18
    simp only [zz15, zz16] at H
    obtain ⟨rfl, rfl, rfl, rfl, rfl⟩ := H
    go_enter Tryz.func79, Tryz.ntmps79
    try go_wp2_with (first|((with_reducible refine zz24 (N:=1) rfl ?_);refine zz30 ?hg (N:=1) ?hd (cs:=#[.int .i64 a0_0,.int .i64 a0_1,.bool a0_2,.int .i64 a0_3]) (t:=34) ?hr ?_;(case hd=>rfl);(case hg=>rfl);(case hr=>first|(go_simp;done)|(go_simp;rfl));intro gb181 hg w19 hbox hb;have n0_:=zz00 (zz21 (by repeat (first|(with_reducible first|exact HB.out|apply zz03|apply zz01|apply zz02)|exact HB.out)) hb);have n1_:=zz00 (hbox);have n2_:=zz00 ((by rw [hg];exact (zz22 (by repeat (first|(with_reducible first|exact HB.out|apply zz03|apply zz01|apply zz02)|exact HB.out))) : w.heap.size ≤ gb181));have n3_:=zz00 ((by rw [hg];exact (zz22 (by repeat (first|(with_reducible first|exact HB.out|apply zz03|apply zz01|apply zz02)|exact HB.out))) : w.heap.size ≤ gb181));clear HB;have HB:=n0_;have BK181:=n1_;have GW181:=n2_;have GE181:=n3_;clear n0_ n1_ n2_ n3_;clear hb hbox hg)|((with_reducible refine zz24 (N:=2) rfl ?_);refine zz30 ?hg (N:=2) ?hd (cs:=#[.int .i64 0,.int .i64 0,.bool false,.int .i64 0]) (t:=95) ?hr ?_;(case hd=>rfl);(case hg=>rfl);(case hr=>first|(go_simp;done)|(go_simp;rfl));intro gb182 hg w20 hbox hb;have n0_:=zz00 (zz34 (g:=gb181) (o:=.cells #[.int .i64 a0_0,.int .i64 a0_1,.bool a0_2,.int .i64 a0_3] 34 (0,0)) (by (with_reducible repeat (first|refine zz07 ?_ _|refine zz09 ?_|refine zz08 ?_ _));exact BK181.out) hb);have n1_:=zz00 (zz21 (by repeat (first|(with_reducible first|exact HB.out|apply zz03|apply zz01|apply zz02|refine zz10 ?_ GE181.out)|exact HB.out)) hb);have n2_:=zz00 (hbox);have n3_:=zz00 ((by rw [hg];exact (zz22 (by repeat (first|(with_reducible first|exact HB.out|apply zz03|apply zz01|apply zz02|refine zz10 ?_ GE181.out)|exact HB.out))) : w.heap.size ≤ gb182));have n4_:=zz00 ((by rw [hg];exact (zz22 (by repeat (first|(with_reducible first|exact HB.out|apply zz03|apply zz01|apply zz02|refine zz10 ?_ GE181.out)|exact HB.out))) : w.heap.size ≤ gb182));have n5_:=zz00 ((by rw [hg];exact Nat.ne_of_lt (blk_lt (g:=gb181) (o:=.cells #[.int .i64 a0_0,.int .i64 a0_1,.bool a0_2,.int .i64 a0_3] 34 (0,0)) (by (with_reducible repeat (first|refine zz07 ?_ _|refine zz09 ?_|refine zz08 ?_ _));exact BK181.out)) : gb181 ≠ gb182));have n6_:=zz00 ((by rw [hg];exact Nat.ne_of_gt (blk_lt (g:=gb181) (o:=.cells #[.int .i64 a0_0,.int .i64 a0_1,.bool a0_2,.int .i64 a0_3] 34 (0,0)) (by (with_reducible repeat (first|refine zz07 ?_ _|refine zz09 ?_|refine zz08 ?_ _));exact BK181.out)) : gb182 ≠ gb181));clear BK181;clear HB;have BK181:=n0_;have HB:=n1_;have BK182:=n2_;have GW182:=n3_;have GE182:=n4_;have NB181_182:=n5_;have NB182_181:=n6_;clear n0_ n1_ n2_ n3_ n4_ n5_ n6_;clear hb hbox hg;have hnb21:=NB181_182.out;have hnc21:=NB182_181.out;have hcz22_0 : w20.cell? ⟨gb181,0,none⟩ = some (.int .i64 a0_0):=(zz18 BK181.out 0).trans rfl;have hcz22_1 : w20.cell? ⟨gb181,1,none⟩ = some (.int .i64 a0_1):=(zz18 BK181.out 1).trans rfl;have hcz22_2 : w20.cell? ⟨gb181,2,none⟩ = some (.bool a0_2):=(zz18 BK181.out 2).trans rfl;have hcz22_3 : w20.cell? ⟨gb181,3,none⟩ = some (.int .i64 a0_3):=(zz18 BK181.out 3).trans rfl;have hfz22_0:=zz17 BK181.out 0;have hfz22_1:=zz17 BK181.out 1;have hfz22_2:=zz17 BK181.out 2;have hfz22_3:=zz17 BK181.out 3)|((with_reducible refine zz23 (f:=101) rfl ?_);refine zz25 (some 11) rfl rfl Tryz.func101 (by kernel_rfl) rfl #[.int .i64 a0_0,.agg #[.int .i64 a0_1,.bool a0_2]] rfl (by (try simp only [List.map_toArray,List.map_cons,List.map_nil]);first|done|rfl|(simp only [List.length_drop,List.length_take];rfl)) ?_;(with_reducible refine (heb_find.calls k a0_0 a0_1 a0_2 t183 t184 t185 t186 t187 _ A2.out).mono ?_);rintro e w23 ⟨rfl,hb⟩;refine ⟨_,rfl,?_⟩;have n0_:=zz00 (zz34 (g:=gb181) (o:=.cells #[.int .i64 a0_0,.int .i64 a0_1,.bool a0_2,.int .i64 a0_3] 34 (0,0)) (by (with_reducible repeat (first|refine zz07 ?_ _|refine zz09 ?_|refine zz08 ?_ _));exact BK181.out) hb);have n1_:=zz00 (zz34 (g:=gb182) (o:=.cells #[.int .i64 0,.int .i64 0,.bool false,.int .i64 0] 95 (0,0)) (by (with_reducible repeat (first|refine zz07 ?_ _|refine zz09 ?_|refine zz08 ?_ _));exact BK182.out) hb);have n2_:=zz00 (zz21 (by repeat (first|(with_reducible first|exact HB.out|apply zz03|apply zz01|apply zz02|refine zz10 ?_ GE181.out|refine zz10 ?_ GE182.out)|exact HB.out)) hb);clear BK181;clear BK182;clear HB;have BK181:=n0_;have BK182:=n1_;have HB:=n2_;clear n0_ n1_ n2_;(try clear hb);(try clear hb2);(try clear hk);(try clear hi))|((with_reducible refine zz24 (N:=4) rfl ?_);refine zz30 ?hg (N:=4) ?hd (cs:=#[.int .i64 0,.int .i64 0,.bool false,.int .i64 0]) (t:=95) ?hr ?_;(case hd=>rfl);(case hg=>rfl);(case hr=>first|(go_simp;done)|(go_simp;rfl));intro gb188 hg w24 hbox hb;have n0_:=zz00 (zz34 (g:=gb181) (o:=.cells #[.int .i64 a0_0,.int .i64 a0_1,.bool a0_2,.int .i64 a0_3] 34 (0,0)) (by (with_reducible repeat (first|refine zz07 ?_ _|refine zz09 ?_|refine zz08 ?_ _));exact BK181.out) hb);have n1_:=zz00 (zz34 (g:=gb182) (o:=.cells #[.int .i64 0,.int .i64 0,.bool false,.int .i64 0] 95 (0,0)) (by (with_reducible repeat (first|refine zz07 ?_ _|refine zz09 ?_|refine zz08 ?_ _));exact BK182.out) hb);have n2_:=zz00 (zz21 (by repeat (first|(with_reducible first|exact HB.out|apply zz03|apply zz01|apply zz02|refine zz10 ?_ GE181.out|refine zz10 ?_ GE182.out)|exact HB.out)) hb);have n3_:=zz00 (hbox);have n4_:=zz00 ((by rw [hg];exact (zz22 (by repeat (first|(with_reducible first|exact HB.out|apply zz03|apply zz01|apply zz02|refine zz10 ?_ GE181.out|refine zz10 ?_ GE182.out)|exact HB.out))) : w.heap.size ≤ gb188));have n5_:=zz00 ((by rw [hg];exact (zz22 (by repeat (first|(with_reducible first|exact HB.out|apply zz03|apply zz01|apply zz02|refine zz10 ?_ GE181.out|refine zz10 ?_ GE182.out)|exact HB.out))) : w.heap.size ≤ gb188));have n6_:=zz00 ((by rw [hg];exact Nat.ne_of_lt (blk_lt (g:=gb181) (o:=.cells #[.int .i64 a0_0,.int .i64 a0_1,.bool a0_2,.int .i64 a0_3] 34 (0,0)) (by (with_reducible repeat (first|refine zz07 ?_ _|refine zz09 ?_|refine zz08 ?_ _));exact BK181.out)) : gb181 ≠ gb188));have n7_:=zz00 ((by rw [hg];exact Nat.ne_of_gt (blk_lt (g:=gb181) (o:=.cells #[.int .i64 a0_0,.int .i64 a0_1,.bool a0_2,.int .i64 a0_3] 34 (0,0)) (by (with_reducible repeat (first|refine zz07 ?_ _|refine zz09 ?_|refine zz08 ?_ _));exact BK181.out)) : gb188 ≠ gb181));have n8_:=zz00 ((by rw [hg];exact Nat.ne_of_lt (blk_lt (g:=gb182) (o:=.cells #[.int .i64 0,.int .i64 0,.bool false,.int .i64 0] 95 (0,0)) (by (with_reducible repeat (first|refine zz07 ?_ _|refine zz09 ?_|refine zz08 ?_ _));exact BK182.out)) : gb182 ≠ gb188));have n9_:=zz00 ((by rw [hg];exact Nat.ne_of_gt (blk_lt (g:=gb182) (o:=.cells #[.int .i64 0,.int .i64 0,.bool false,.int .i64 0] 95 (0,0)) (by (with_reducible repeat (first|refine zz07 ?_ _|refine zz09 ?_|refine zz08 ?_ _));exact BK182.out)) : gb188 ≠ gb182));clear BK181;clear BK182;clear HB;have BK181:=n0_;have BK182:=n1_;have HB:=n2_;have BK188:=n3_;have GW188:=n4_;have GE188:=n5_;have NB181_188:=n6_;have NB188_181:=n7_;have NB182_188:=n8_;have NB188_182:=n9_;clear n0_ n1_ n2_ n3_ n4_ n5_ n6_ n7_ n8_ n9_;clear hb hbox hg;have hnb25:=NB188_181.out;have hnc25:=NB181_188.out;have hnb26:=NB188_182.out;have hnc26:=NB182_188.out;have hcz27_0 : w24.cell? ⟨gb188,0,none⟩ = some (.int .i64 0):=(zz18 BK188.out 0).trans rfl;have hcz27_1 : w24.cell? ⟨gb188,1,none⟩ = some (.int .i64 0):=(zz18 BK188.out 1).trans rfl;have hcz27_2 : w24.cell? ⟨gb188,2,none⟩ = some (.bool false):=(zz18 BK188.out 2).trans rfl;have hcz27_3 : w24.cell? ⟨gb188,3,none⟩ = some (.int .i64 0):=(zz18 BK188.out 3).trans rfl;have hfz27_0:=zz17 BK188.out 0;have hfz27_1:=zz17 BK188.out 1;have hfz27_2:=zz17 BK188.out 2;have hfz27_3:=zz17 BK188.out 3))
    have n0_ : Aside0 (((((w24.setCell ⟨gb188,0,none⟩ (.int .i64 t183)).setCell ⟨gb188,1,none⟩ (.int .i64 t184)).setCell ⟨gb188,2,none⟩ (.bool t185)).setCell ⟨gb188,3,none⟩ (.int .i64 t186)).heap[gb181]? = some (.cells #[.int .i64 a0_0,.int .i64 a0_1,.bool a0_2,.int .i64 a0_3] 34 (0,0))):=⟨by (with_reducible repeat (first|refine zz07 ?_ _|refine zz09 ?_|refine zz08 ?_ _));refine zz33 ?_ NB181_188.out _;(with_reducible repeat (first|refine zz07 ?_ _|refine zz09 ?_|refine zz08 ?_ _));refine zz33 ?_ NB181_188.out _;(with_reducible repeat (first|refine zz07 ?_ _|refine zz09 ?_|refine zz08 ?_ _));refine zz33 ?_ NB181_188.out _;(with_reducible repeat (first|refine zz07 ?_ _|refine zz09 ?_|refine zz08 ?_ _));refine zz33 ?_ NB181_188.out _;(with_reducible repeat (first|refine zz07 ?_ _|refine zz09 ?_|refine zz08 ?_ _));exact BK181.out⟩
    have n1_ : Aside0 (((((w24.setCell ⟨gb188,0,none⟩ (.int .i64 t183)).setCell ⟨gb188,1,none⟩ (.int .i64 t184)).setCell ⟨gb188,2,none⟩ (.bool t185)).setCell ⟨gb188,3,none⟩ (.int .i64 t186)).heap[gb182]? = some (.cells #[.int .i64 0,.int .i64 0,.bool false,.int .i64 0] 95 (0,0))):=⟨by (with_reducible repeat (first|refine zz07 ?_ _|refine zz09 ?_|refine zz08 ?_ _));refine zz33 ?_ NB182_188.out _;(with_reducible repeat (first|refine zz07 ?_ _|refine zz09 ?_|refine zz08 ?_ _));refine zz33 ?_ NB182_188.out _;(with_reducible repeat (first|refine zz07 ?_ _|refine zz09 ?_|refine zz08 ?_ _));refine zz33 ?_ NB182_188.out _;(with_reducible repeat (first|refine zz07 ?_ _|refine zz09 ?_|refine zz08 ?_ _));refine zz33 ?_ NB182_188.out _;(with_reducible repeat (first|refine zz07 ?_ _|refine zz09 ?_|refine zz08 ?_ _));exact BK182.out⟩
    have n2_ : Aside0 (((((w24.setCell ⟨gb188,0,none⟩ (.int .i64 t183)).setCell ⟨gb188,1,none⟩ (.int .i64 t184)).setCell ⟨gb188,2,none⟩ (.bool t185)).setCell ⟨gb188,3,none⟩ (.int .i64 t186)).heap[gb188]? = some (.cells #[.int .i64 t183,.int .i64 t184,.bool t185,.int .i64 t186] 95 (0,0))):=⟨by (with_reducible repeat (first|refine zz07 ?_ _|refine zz09 ?_|refine zz08 ?_ _));refine zz35 (cs:=#[.int .i64 t183,.int .i64 t184,.bool t185,.int .i64 0]) ?_ 3 _ rfl;(with_reducible repeat (first|refine zz07 ?_ _|refine zz09 ?_|refine zz08 ?_ _));refine zz35 (cs:=#[.int .i64 t183,.int .i64 t184,.bool false,.int .i64 0]) ?_ 2 _ rfl;(with_reducible repeat (first|refine zz07 ?_ _|refine zz09 ?_|refine zz08 ?_ _));refine zz35 (cs:=#[.int .i64 t183,.int .i64 0,.bool false,.int .i64 0]) ?_ 1 _ rfl;(with_reducible repeat (first|refine zz07 ?_ _|refine zz09 ?_|refine zz08 ?_ _));refine zz35 (cs:=#[.int .i64 0,.int .i64 0,.bool false,.int .i64 0]) ?_ 0 _ rfl;(with_reducible repeat (first|refine zz07 ?_ _|refine zz09 ?_|refine zz08 ?_ _));exact BK188.out⟩
    have n3_ : Aside0 (Below w.heap.size w ((((w24.setCell ⟨gb188,0,none⟩ (.int .i64 t183)).setCell ⟨gb188,1,none⟩ (.int .i64 t184)).setCell ⟨gb188,2,none⟩ (.bool t185)).setCell ⟨gb188,3,none⟩ (.int .i64 t186))):=⟨by repeat (first|(with_reducible first|exact HB.out|apply zz03|apply zz01|apply zz02|refine zz10 ?_ GE181.out|refine zz10 ?_ GE182.out|refine zz10 ?_ GE188.out)|exact HB.out)⟩
    (try clear BK181)
    (try clear BK182)
    (try clear BK188)
    (try clear HB)
    generalize ((((w24.setCell ⟨gb188,0,none⟩ (.int .i64 t183)).setCell ⟨gb188,1,none⟩ (.int .i64 t184)).setCell ⟨gb188,2,none⟩ (.bool t185)).setCell ⟨gb188,3,none⟩ (.int .i64 t186)) = w28 at n0_ n1_ n2_ n3_ ⊢
    have BK181 := n0_
    have BK182 := n1_
    have BK188 := n2_
    have HB := n3_
    clear n0_ n1_ n2_ n3_
    have n0_ := zz00 (zz09 BK181.out)
    have n1_ := zz00 (zz09 BK182.out)
    have n2_ := zz00 (zz09 BK188.out)
    have n3_ := zz00 (zz02 HB.out)
    clear BK181
    clear BK182
    clear BK188
    clear HB
    have BK181 := n0_
    have BK182 := n1_
    have BK188 := n2_
    have HB := n3_
    clear n0_ n1_ n2_ n3_
    refine start_ (n:=14) (S:=fun w'=>w'.cell? ⟨gb181,0,none⟩ = some (.int .i64 a0_0) ∧ w'.cell? ⟨gb181,1,none⟩ = some (.int .i64 a0_1) ∧ w'.cell? ⟨gb181,2,none⟩ = some (.bool a0_2) ∧ w'.cell? ⟨gb181,3,none⟩ = some (.int .i64 a0_3) ∧ w'.cell? ⟨gb188,0,none⟩ = some (.int .i64 t183) ∧ w'.cell? ⟨gb188,1,none⟩ = some (.int .i64 t184) ∧ w'.cell? ⟨gb188,2,none⟩ = some (.bool t185) ∧ w'.cell? ⟨gb188,3,none⟩ = some (.int .i64 t186)) (ds:=[]) #[false,false,false,false,false,false,false,false,false,false,false,false,false,false] (by kernel_rfl) rfl rfl ⟨(zz18 BK181.out 0).trans rfl,(zz18 BK181.out 1).trans rfl,(zz18 BK181.out 2).trans rfl,(zz18 BK181.out 3).trans rfl,(zz18 BK188.out 0).trans rfl,(zz18 BK188.out 1).trans rfl,(zz18 BK188.out 2).trans rfl,(zz18 BK188.out 3).trans rfl⟩ (fun hHeld=>?_);refine with_tabW heb_look.tab4 heb_look.bits4 (fun HT_ HW_=>?_)
    generalize w28.drew = w29 at BK181 BK182 BK188 HB hHeld ⊢
    refine pure_ (i:=0) (N:=some 20) (v:=?_) (a':=?_) #[true,false,false,false,false,false,false,false,false,false,false,false,false,false] rfl rfl (any_of HT_.out (by kernel_rfl)) (fun _ _ _ h=>h) (Or.inl ⟨by rfl,?_⟩) ?_ ?_
    rotate_left
    ·
     intro w'
     go_simp
     with_reducible rfl
    rotate_left
    ·
     simp only [Act.put, zz11, zz12, zz13, i64_w, i32_w]
     rfl
    refine take_ (i:=1) (N:=some 21) (v:=?_) (a':=?_) #[true,true,false,false,false,false,false,false,false,false,false,false,false,false] rfl rfl (take_ofW HT_.out HW_.out (by kernel_rfl)) (fun _ _ _ h=>h) (Or.inl ⟨by rfl,?_⟩) hHeld ?_ ?_
    rotate_left
    ·
     rintro w' ⟨s0, s1, s2, s3, s4, s5, s6, s7⟩
     go_simp
     with_reducible rfl
    rotate_left
    ·
     simp only [Act.put, zz11, zz12, zz13, i64_w, i32_w]
     rfl
    refine pure_ (i:=2) (N:=some 22) (v:=?_) (a':=?_) #[true,true,true,false,false,false,false,false,false,false,false,false,false,false] rfl rfl (any_of HT_.out (by kernel_rfl)) (fun _ _ _ h=>h) (Or.inl ⟨by rfl,?_⟩) ?_ ?_
    rotate_left
    ·
     intro w'
     go_simp
     with_reducible rfl
    rotate_left
    ·
     simp only [Act.put, zz11, zz12, zz13, i64_w, i32_w]
     rfl
    refine pure_ (i:=3) (N:=some 23) (v:=?_) (a':=?_) #[true,true,true,true,false,false,false,false,false,false,false,false,false,false] rfl rfl (any_of HT_.out (by kernel_rfl)) (fun _ _ _ h=>h) (Or.inl ⟨by rfl,?_⟩) ?_ ?_
    rotate_left
    ·
     intro w'
     go_simp
     with_reducible rfl
    rotate_left
    ·
     simp only [Act.put, zz11, zz12, zz13, i64_w, i32_w]
     rfl
    refine pure_ (i:=4) (N:=some 24) (v:=?_) (a':=?_) #[true,true,true,true,true,false,false,false,false,false,false,false,false,false] rfl rfl (any_of HT_.out (by kernel_rfl)) (fun _ _ _ h=>h) (Or.inl ⟨by rfl,?_⟩) ?_ ?_
    rotate_left
    ·
     intro w'
     go_simp
     with_reducible rfl
    rotate_left
    ·
     simp only [Act.put, zz11, zz12, zz13, i64_w, i32_w]
     rfl
    refine pure_ (i:=6) (N:=some 26) (v:=?_) (a':=?_) #[true,true,true,true,true,false,true,false,false,false,false,false,false,false] rfl rfl (any_of HT_.out (by kernel_rfl)) (fun _ _ _ h=>h) (Or.inl ⟨by rfl,?_⟩) ?_ ?_
    rotate_left
    ·
     intro w'
     go_simp
     with_reducible rfl
    rotate_left
    ·
     simp only [Act.put, zz11, zz12, zz13, i64_w, i32_w]
     rfl
    refine pure_ (i:=8) (N:=some 28) (v:=?_) (a':=?_) #[true,true,true,true,true,false,true,false,true,false,false,false,false,false] rfl rfl (any_of HT_.out (by kernel_rfl)) (fun _ _ _ h=>h) (Or.inl ⟨by rfl,?_⟩) ?_ ?_
    rotate_left
    ·
     intro w'
     go_simp
     with_reducible rfl
    rotate_left
    ·
     simp only [Act.put, zz11, zz12, zz13, i64_w, i32_w]
     rfl
    refine take_ (i:=5) (N:=some 25) (v:=?_) (a':=?_) #[true,true,true,true,true,true,true,false,true,false,false,false,false,false] rfl rfl (take_ofW HT_.out HW_.out (by kernel_rfl)) (fun _ _ _ h=>h) (Or.inl ⟨by rfl,?_⟩) hHeld ?_ ?_
    rotate_left
    ·
     rintro w' ⟨s0, s1, s2, s3, s4, s5, s6, s7⟩
     go_simp
     with_reducible rfl
    rotate_left
    ·
     simp only [Act.put, zz11, zz12, zz13, i64_w, i32_w]
     rfl
    refine take_ (i:=7) (N:=some 27) (v:=?_) (a':=?_) #[true,true,true,true,true,true,true,true,true,false,false,false,false,false] rfl rfl (take_ofW HT_.out HW_.out (by kernel_rfl)) (fun _ _ _ h=>h) (Or.inl ⟨by rfl,?_⟩) hHeld ?_ ?_
    rotate_left
    ·
     rintro w' ⟨s0, s1, s2, s3, s4, s5, s6, s7⟩
     go_simp
     with_reducible rfl
    rotate_left
    ·
     simp only [Act.put, zz11, zz12, zz13, i64_w, i32_w]
     rfl
    refine take_ (i:=9) (N:=some 29) (v:=?_) (a':=?_) #[true,true,true,true,true,true,true,true,true,true,false,false,false,false] rfl rfl (take_ofW HT_.out HW_.out (by kernel_rfl)) (fun _ _ _ h=>h) (Or.inl ⟨by rfl,?_⟩) hHeld ?_ ?_
    rotate_left
    ·
     rintro w' ⟨s0, s1, s2, s3, s4, s5, s6, s7⟩
     go_simp
     with_reducible rfl
    rotate_left
    ·
     simp only [Act.put, zz11, zz12, zz13, i64_w, i32_w]
     rfl
    refine one_ (i := 10) (N := some 30) #[true, true, true, true, true, true, true, true, true, true, true, false, false, false] rfl rfl (one_of HT_.out (by kernel_rfl)) (by decide) (fun K hK => ?_)
    refine goes_ Tryz.func102 (by kernel_rfl) rfl #[.agg #[.int .i64 t183,.int .i64 t184,.bool t185],.int .i64 t186] (by rfl) rfl rfl (by (try simp only [List.map_toArray,List.map_cons,List.map_nil]);first|done|rfl|(simp only [List.length_drop,List.length_take];rfl)) ?_
    with_reducible refine (month_Days.calls t183 t184 t185 t186 t189 _ ?side1 A17.out).mono ?_
    (case side1=>exact GlobT.below HGT (by repeat (first|(with_reducible first|exact HB.out|apply zz03|apply zz01|apply zz02|refine zz10 ?_ GE181.out|refine zz10 ?_ GE182.out|refine zz10 ?_ GE188.out)|exact HB.out)))
    rintro e w30 ⟨rfl, hb⟩
    refine ⟨_, rfl, ?_⟩
    have n0_:=zz00 (zz34 (g:=gb181) (o:=.cells #[.int .i64 a0_0,.int .i64 a0_1,.bool a0_2,.int .i64 a0_3] 34 (0,0)) (by (with_reducible repeat (first|refine zz07 ?_ _|refine zz09 ?_|refine zz08 ?_ _));exact BK181.out) hb)
    have n1_:=zz00 (zz34 (g:=gb182) (o:=.cells #[.int .i64 0,.int .i64 0,.bool false,.int .i64 0] 95 (0,0)) (by (with_reducible repeat (first|refine zz07 ?_ _|refine zz09 ?_|refine zz08 ?_ _));exact BK182.out) hb)
    have n2_:=zz00 (zz34 (g:=gb188) (o:=.cells #[.int .i64 t183,.int .i64 t184,.bool t185,.int .i64 t186] 95 (0,0)) (by (with_reducible repeat (first|refine zz07 ?_ _|refine zz09 ?_|refine zz08 ?_ _));exact BK188.out) hb)
    have n3_:=zz00 (zz21 (by repeat (first|(with_reducible first|exact HB.out|apply zz03|apply zz01|apply zz02|refine zz10 ?_ GE181.out|refine zz10 ?_ GE182.out|refine zz10 ?_ GE188.out)|exact HB.out)) hb)
    clear BK181
    clear BK182
    clear BK188
    clear HB
    have BK181 := n0_
    have BK182 := n1_
    have BK188 := n2_
    have HB := n3_
    clear n0_ n1_ n2_ n3_
    (try clear hb)
    (try clear hb2)
    (try clear hk)
    (try clear hi)
    refine hK.out _ _ ⟨(zz18 BK181.out 0).trans rfl,(zz18 BK181.out 1).trans rfl,(zz18 BK181.out 2).trans rfl,(zz18 BK181.out 3).trans rfl,(zz18 BK188.out 0).trans rfl,(zz18 BK188.out 1).trans rfl,(zz18 BK188.out 2).trans rfl,(zz18 BK188.out 3).trans rfl⟩ (fun hHeld=>?_)
    clear hK K
    refine norm_ (a' := ?_) ?_ ?_
    rotate_left
    ·
     show Act.put _ (some 30) _ = _
     simp only [Act.put, zz11, zz12, zz13, i64_w, i32_w]
     rfl
    refine pure_ (i:=11) (N:=some 31) (v:=?_) (a':=?_) #[true,true,true,true,true,true,true,true,true,true,true,true,false,false] rfl rfl (any_of HT_.out (by kernel_rfl)) (fun _ _ _ h=>h) (Or.inl ⟨by rfl,?_⟩) ?_ ?_
    rotate_left
    ·
     intro w'
     go_simp
     with_reducible rfl
    rotate_left
    ·
     simp only [Act.put, zz11, zz12, zz13, i64_w, i32_w]
     rfl
    refine pure_ (i:=12) (N:=some 32) (v:=?_) (a':=?_) #[true,true,true,true,true,true,true,true,true,true,true,true,true,false] rfl rfl (any_of HT_.out (by kernel_rfl)) (fun _ _ _ h=>h) (Or.inl ⟨by rfl,?_⟩) ?_ ?_
    rotate_left
    ·
     intro w'
     go_simp
     with_reducible rfl
    rotate_left
    ·
     simp only [Act.put, zz11, zz12, zz13, i64_w, i32_w]
     rfl
    refine pure_ (i:=13) (N:=some 19) (v:=?_) (a':=?_) #[true,true,true,true,true,true,true,true,true,true,true,true,true,true] rfl rfl (any_of HT_.out (by kernel_rfl)) (fun _ _ _ h=>h) (Or.inl ⟨by rfl,?_⟩) ?_ ?_
    rotate_left
    ·
     intro w'
     go_simp
     with_reducible rfl
    rotate_left
    ·
     simp only [Act.put, zz11, zz12, zz13, i64_w, i32_w]
     rfl
    refine done_ (done_of HT_.out (by kernel_rfl)) ?_
    have hcz31_0 : w30.cell? ⟨gb182, 0, none⟩ = some (.int .i64 0) := (zz18 BK182.out 0).trans rfl
    have hcz31_1 : w30.cell? ⟨gb182, 1, none⟩ = some (.int .i64 0) := (zz18 BK182.out 1).trans rfl
    have hcz31_2 : w30.cell? ⟨gb182, 2, none⟩ = some (.bool false) := (zz18 BK182.out 2).trans rfl
    have hcz31_3 : w30.cell? ⟨gb182, 3, none⟩ = some (.int .i64 0) := (zz18 BK182.out 3).trans rfl
    have hfz31_0 := zz17 BK182.out 0
    have hfz31_1 := zz17 BK182.out 1
    have hfz31_2 := zz17 BK182.out 2
    have hfz31_3 := zz17 BK182.out 3
    try go_wp2
    refine bodyPost_ret (results_ct rfl _ _ gb182 95 #[.int .i64 0,.int .i64 0,.bool false,.int .i64 0] (0,0) _ rfl (by (with_reducible repeat (first|refine zz07 ?_ _|refine zz09 ?_|refine zz08 ?_ _));refine zz35 (cs:=#[.int .i64 0,.int .i64 0,.bool false,.int .i64 0]) ?_ 3 _ rfl;(with_reducible repeat (first|refine zz07 ?_ _|refine zz09 ?_|refine zz08 ?_ _));refine zz35 (cs:=#[.int .i64 0,.int .i64 0,.bool false,.int .i64 0]) ?_ 2 _ rfl;(with_reducible repeat (first|refine zz07 ?_ _|refine zz09 ?_|refine zz08 ?_ _));refine zz35 (cs:=#[.int .i64 0,.int .i64 0,.bool false,.int .i64 0]) ?_ 1 _ rfl;(with_reducible repeat (first|refine zz07 ?_ _|refine zz09 ?_|refine zz08 ?_ _));refine zz35 (cs:=#[.int .i64 0,.int .i64 0,.bool false,.int .i64 0]) ?_ 0 _ rfl;(with_reducible repeat (first|refine zz07 ?_ _|refine zz09 ?_|refine zz08 ?_ _));exact BK182.out) Tryz.underlying95 rfl (by kernel_rfl)) rfl ?_
    exact ⟨by first|rfl|(simp [errW_none,errW_some] <;> rfl)|(simp [*,errW_none,errW_some] <;> rfl),by repeat (first|(with_reducible first|exact HB.out|apply zz03|apply zz01|apply zz02|refine zz10 ?_ GE181.out|refine zz10 ?_ GE182.out|refine zz10 ?_ GE188.out)|exact HB.out)⟩
   ·
    rw [if_neg c18] at H
    have c18b0 : decide (t189 < a0_3) = false := decide_eq_false c18
    clear c18
    simp only [zz15, zz16] at H
    obtain ⟨rfl, rfl, rfl, rfl, rfl⟩ := H
    go_enter Tryz.func79, Tryz.ntmps79
    try go_wp2_with (first|((with_reducible refine zz24 (N:=1) rfl ?_);refine zz30 ?hg (N:=1) ?hd (cs:=#[.int .i64 a0_0,.int .i64 a0_1,.bool a0_2,.int .i64 a0_3]) (t:=34) ?hr ?_;(case hd=>rfl);(case hg=>rfl);(case hr=>first|(go_simp;done)|(go_simp;rfl));intro gb181 hg w32 hbox hb;have n0_:=zz00 (zz21 (by repeat (first|(with_reducible first|exact HB.out|apply zz03|apply zz01|apply zz02)|exact HB.out)) hb);have n1_:=zz00 (hbox);have n2_:=zz00 ((by rw [hg];exact (zz22 (by repeat (first|(with_reducible first|exact HB.out|apply zz03|apply zz01|apply zz02)|exact HB.out))) : w.heap.size ≤ gb181));have n3_:=zz00 ((by rw [hg];exact (zz22 (by repeat (first|(with_reducible first|exact HB.out|apply zz03|apply zz01|apply zz02)|exact HB.out))) : w.heap.size ≤ gb181));clear HB;have HB:=n0_;have BK181:=n1_;have GW181:=n2_;have GE181:=n3_;clear n0_ n1_ n2_ n3_;clear hb hbox hg)|((with_reducible refine zz24 (N:=2) rfl ?_);refine zz30 ?hg (N:=2) ?hd (cs:=#[.int .i64 0,.int .i64 0,.bool false,.int .i64 0]) (t:=95) ?hr ?_;(case hd=>rfl);(case hg=>rfl);(case hr=>first|(go_simp;done)|(go_simp;rfl));intro gb182 hg w33 hbox hb;have n0_:=zz00 (zz34 (g:=gb181) (o:=.cells #[.int .i64 a0_0,.int .i64 a0_1,.bool a0_2,.int .i64 a0_3] 34 (0,0)) (by (with_reducible repeat (first|refine zz07 ?_ _|refine zz09 ?_|refine zz08 ?_ _));exact BK181.out) hb);have n1_:=zz00 (zz21 (by repeat (first|(with_reducible first|exact HB.out|apply zz03|apply zz01|apply zz02|refine zz10 ?_ GE181.out)|exact HB.out)) hb);have n2_:=zz00 (hbox);have n3_:=zz00 ((by rw [hg];exact (zz22 (by repeat (first|(with_reducible first|exact HB.out|apply zz03|apply zz01|apply zz02|refine zz10 ?_ GE181.out)|exact HB.out))) : w.heap.size ≤ gb182));have n4_:=zz00 ((by rw [hg];exact (zz22 (by repeat (first|(with_reducible first|exact HB.out|apply zz03|apply zz01|apply zz02|refine zz10 ?_ GE181.out)|exact HB.out))) : w.heap.size ≤ gb182));have n5_:=zz00 ((by rw [hg];exact Nat.ne_of_lt (blk_lt (g:=gb181) (o:=.cells #[.int .i64 a0_0,.int .i64 a0_1,.bool a0_2,.int .i64 a0_3] 34 (0,0)) (by (with_reducible repeat (first|refine zz07 ?_ _|refine zz09 ?_|refine zz08 ?_ _));exact BK181.out)) : gb181 ≠ gb182));have n6_:=zz00 ((by rw [hg];exact Nat.ne_of_gt (blk_lt (g:=gb181) (o:=.cells #[.int .i64 a0_0,.int .i64 a0_1,.bool a0_2,.int .i64 a0_3] 34 (0,0)) (by (with_reducible repeat (first|refine zz07 ?_ _|refine zz09 ?_|refine zz08 ?_ _));exact BK181.out)) : gb182 ≠ gb181));clear BK181;clear HB;have BK181:=n0_;have HB:=n1_;have BK182:=n2_;have GW182:=n3_;have GE182:=n4_;have NB181_182:=n5_;have NB182_181:=n6_;clear n0_ n1_ n2_ n3_ n4_ n5_ n6_;clear hb hbox hg;have hnb34:=NB181_182.out;have hnc34:=NB182_181.out;have hcz35_0 : w33.cell? ⟨gb181,0,none⟩ = some (.int .i64 a0_0):=(zz18 BK181.out 0).trans rfl;have hcz35_1 : w33.cell? ⟨gb181,1,none⟩ = some (.int .i64 a0_1):=(zz18 BK181.out 1).trans rfl;have hcz35_2 : w33.cell? ⟨gb181,2,none⟩ = some (.bool a0_2):=(zz18 BK181.out 2).trans rfl;have hcz35_3 : w33.cell? ⟨gb181,3,none⟩ = some (.int .i64 a0_3):=(zz18 BK181.out 3).trans rfl;have hfz35_0:=zz17 BK181.out 0;have hfz35_1:=zz17 BK181.out 1;have hfz35_2:=zz17 BK181.out 2;have hfz35_3:=zz17 BK181.out 3)|((with_reducible refine zz23 (f:=101) rfl ?_);refine zz25 (some 11) rfl rfl Tryz.func101 (by kernel_rfl) rfl #[.int .i64 a0_0,.agg #[.int .i64 a0_1,.bool a0_2]] rfl (by (try simp only [List.map_toArray,List.map_cons,List.map_nil]);first|done|rfl|(simp only [List.length_drop,List.length_take];rfl)) ?_;(with_reducible refine (heb_find.calls k a0_0 a0_1 a0_2 t183 t184 t185 t186 t187 _ A2.out).mono ?_);rintro e w36 ⟨rfl,hb⟩;refine ⟨_,rfl,?_⟩;have n0_:=zz00 (zz34 (g:=gb181) (o:=.cells #[.int .i64 a0_0,.int .i64 a0_1,.bool a0_2,.int .i64 a0_3] 34 (0,0)) (by (with_reducible repeat (first|refine zz07 ?_ _|refine zz09 ?_|refine zz08 ?_ _));exact BK181.out) hb);have n1_:=zz00 (zz34 (g:=gb182) (o:=.cells #[.int .i64 0,.int .i64 0,.bool false,.int .i64 0] 95 (0,0)) (by (with_reducible repeat (first|refine zz07 ?_ _|refine zz09 ?_|refine zz08 ?_ _));exact BK182.out) hb);have n2_:=zz00 (zz21 (by repeat (first|(with_reducible first|exact HB.out|apply zz03|apply zz01|apply zz02|refine zz10 ?_ GE181.out|refine zz10 ?_ GE182.out)|exact HB.out)) hb);clear BK181;clear BK182;clear HB;have BK181:=n0_;have BK182:=n1_;have HB:=n2_;clear n0_ n1_ n2_;(try clear hb);(try clear hb2);(try clear hk);(try clear hi))|((with_reducible refine zz24 (N:=4) rfl ?_);refine zz30 ?hg (N:=4) ?hd (cs:=#[.int .i64 0,.int .i64 0,.bool false,.int .i64 0]) (t:=95) ?hr ?_;(case hd=>rfl);(case hg=>rfl);(case hr=>first|(go_simp;done)|(go_simp;rfl));intro gb188 hg w37 hbox hb;have n0_:=zz00 (zz34 (g:=gb181) (o:=.cells #[.int .i64 a0_0,.int .i64 a0_1,.bool a0_2,.int .i64 a0_3] 34 (0,0)) (by (with_reducible repeat (first|refine zz07 ?_ _|refine zz09 ?_|refine zz08 ?_ _));exact BK181.out) hb);have n1_:=zz00 (zz34 (g:=gb182) (o:=.cells #[.int .i64 0,.int .i64 0,.bool false,.int .i64 0] 95 (0,0)) (by (with_reducible repeat (first|refine zz07 ?_ _|refine zz09 ?_|refine zz08 ?_ _));exact BK182.out) hb);have n2_:=zz00 (zz21 (by repeat (first|(with_reducible first|exact HB.out|apply zz03|apply zz01|apply zz02|refine zz10 ?_ GE181.out|refine zz10 ?_ GE182.out)|exact HB.out)) hb);have n3_:=zz00 (hbox);have n4_:=zz00 ((by rw [hg];exact (zz22 (by repeat (first|(with_reducible first|exact HB.out|apply zz03|apply zz01|apply zz02|refine zz10 ?_ GE181.out|refine zz10 ?_ GE182.out)|exact HB.out))) : w.heap.size ≤ gb188));have n5_:=zz00 ((by rw [hg];exact (zz22 (by repeat (first|(with_reducible first|exact HB.out|apply zz03|apply zz01|apply zz02|refine zz10 ?_ GE181.out|refine zz10 ?_ GE182.out)|exact HB.out))) : w.heap.size ≤ gb188));have n6_:=zz00 ((by rw [hg];exact Nat.ne_of_lt (blk_lt (g:=gb181) (o:=.cells #[.int .i64 a0_0,.int .i64 a0_1,.bool a0_2,.int .i64 a0_3] 34 (0,0)) (by (with_reducible repeat (first|refine zz07 ?_ _|refine zz09 ?_|refine zz08 ?_ _));exact BK181.out)) : gb181 ≠ gb188));have n7_:=zz00 ((by rw [hg];exact Nat.ne_of_gt (blk_lt (g:=gb181) (o:=.cells #[.int .i64 a0_0,.int .i64 a0_1,.bool a0_2,.int .i64 a0_3] 34 (0,0)) (by (with_reducible repeat (first|refine zz07 ?_ _|refine zz09 ?_|refine zz08 ?_ _));exact BK181.out)) : gb188 ≠ gb181));have n8_:=zz00 ((by rw [hg];exact Nat.ne_of_lt (blk_lt (g:=gb182) (o:=.cells #[.int .i64 0,.int .i64 0,.bool false,.int .i64 0] 95 (0,0)) (by (with_reducible repeat (first|refine zz07 ?_ _|refine zz09 ?_|refine zz08 ?_ _));exact BK182.out)) : gb182 ≠ gb188));have n9_:=zz00 ((by rw [hg];exact Nat.ne_of_gt (blk_lt (g:=gb182) (o:=.cells #[.int .i64 0,.int .i64 0,.bool false,.int .i64 0] 95 (0,0)) (by (with_reducible repeat (first|refine zz07 ?_ _|refine zz09 ?_|refine zz08 ?_ _));exact BK182.out)) : gb188 ≠ gb182));clear BK181;clear BK182;clear HB;have BK181:=n0_;have BK182:=n1_;have HB:=n2_;have BK188:=n3_;have GW188:=n4_;have GE188:=n5_;have NB181_188:=n6_;have NB188_181:=n7_;have NB182_188:=n8_;have NB188_182:=n9_;clear n0_ n1_ n2_ n3_ n4_ n5_ n6_ n7_ n8_ n9_;clear hb hbox hg;have hnb38:=NB188_181.out;have hnc38:=NB181_188.out;have hnb39:=NB188_182.out;have hnc39:=NB182_188.out;have hcz40_0 : w37.cell? ⟨gb188,0,none⟩ = some (.int .i64 0):=(zz18 BK188.out 0).trans rfl;have hcz40_1 : w37.cell? ⟨gb188,1,none⟩ = some (.int .i64 0):=(zz18 BK188.out 1).trans rfl;have hcz40_2 : w37.cell? ⟨gb188,2,none⟩ = some (.bool false):=(zz18 BK188.out 2).trans rfl;have hcz40_3 : w37.cell? ⟨gb188,3,none⟩ = some (.int .i64 0):=(zz18 BK188.out 3).trans rfl;have hfz40_0:=zz17 BK188.out 0;have hfz40_1:=zz17 BK188.out 1;have hfz40_2:=zz17 BK188.out 2;have hfz40_3:=zz17 BK188.out 3))
    have n0_ : Aside0 (((((w37.setCell ⟨gb188,0,none⟩ (.int .i64 t183)).setCell ⟨gb188,1,none⟩ (.int .i64 t184)).setCell ⟨gb188,2,none⟩ (.bool t185)).setCell ⟨gb188,3,none⟩ (.int .i64 t186)).heap[gb181]? = some (.cells #[.int .i64 a0_0,.int .i64 a0_1,.bool a0_2,.int .i64 a0_3] 34 (0,0))):=⟨by (with_reducible repeat (first|refine zz07 ?_ _|refine zz09 ?_|refine zz08 ?_ _));refine zz33 ?_ NB181_188.out _;(with_reducible repeat (first|refine zz07 ?_ _|refine zz09 ?_|refine zz08 ?_ _));refine zz33 ?_ NB181_188.out _;(with_reducible repeat (first|refine zz07 ?_ _|refine zz09 ?_|refine zz08 ?_ _));refine zz33 ?_ NB181_188.out _;(with_reducible repeat (first|refine zz07 ?_ _|refine zz09 ?_|refine zz08 ?_ _));refine zz33 ?_ NB181_188.out _;(with_reducible repeat (first|refine zz07 ?_ _|refine zz09 ?_|refine zz08 ?_ _));exact BK181.out⟩
    have n1_ : Aside0 (((((w37.setCell ⟨gb188,0,none⟩ (.int .i64 t183)).setCell ⟨gb188,1,none⟩ (.int .i64 t184)).setCell ⟨gb188,2,none⟩ (.bool t185)).setCell ⟨gb188,3,none⟩ (.int .i64 t186)).heap[gb182]? = some (.cells #[.int .i64 0,.int .i64 0,.bool false,.int .i64 0] 95 (0,0))):=⟨by (with_reducible repeat (first|refine zz07 ?_ _|refine zz09 ?_|refine zz08 ?_ _));refine zz33 ?_ NB182_188.out _;(with_reducible repeat (first|refine zz07 ?_ _|refine zz09 ?_|refine zz08 ?_ _));refine zz33 ?_ NB182_188.out _;(with_reducible repeat (first|refine zz07 ?_ _|refine zz09 ?_|refine zz08 ?_ _));refine zz33 ?_ NB182_188.out _;(with_reducible repeat (first|refine zz07 ?_ _|refine zz09 ?_|refine zz08 ?_ _));refine zz33 ?_ NB182_188.out _;(with_reducible repeat (first|refine zz07 ?_ _|refine zz09 ?_|refine zz08 ?_ _));exact BK182.out⟩
    have n2_ : Aside0 (((((w37.setCell ⟨gb188,0,none⟩ (.int .i64 t183)).setCell ⟨gb188,1,none⟩ (.int .i64 t184)).setCell ⟨gb188,2,none⟩ (.bool t185)).setCell ⟨gb188,3,none⟩ (.int .i64 t186)).heap[gb188]? = some (.cells #[.int .i64 t183,.int .i64 t184,.bool t185,.int .i64 t186] 95 (0,0))):=⟨by (with_reducible repeat (first|refine zz07 ?_ _|refine zz09 ?_|refine zz08 ?_ _));refine zz35 (cs:=#[.int .i64 t183,.int .i64 t184,.bool t185,.int .i64 0]) ?_ 3 _ rfl;(with_reducible repeat (first|refine zz07 ?_ _|refine zz09 ?_|refine zz08 ?_ _));refine zz35 (cs:=#[.int .i64 t183,.int .i64 t184,.bool false,.int .i64 0]) ?_ 2 _ rfl;(with_reducible repeat (first|refine zz07 ?_ _|refine zz09 ?_|refine zz08 ?_ _));refine zz35 (cs:=#[.int .i64 t183,.int .i64 0,.bool false,.int .i64 0]) ?_ 1 _ rfl;(with_reducible repeat (first|refine zz07 ?_ _|refine zz09 ?_|refine zz08 ?_ _));refine zz35 (cs:=#[.int .i64 0,.int .i64 0,.bool false,.int .i64 0]) ?_ 0 _ rfl;(with_reducible repeat (first|refine zz07 ?_ _|refine zz09 ?_|refine zz08 ?_ _));exact BK188.out⟩
    have n3_ : Aside0 (Below w.heap.size w ((((w37.setCell ⟨gb188,0,none⟩ (.int .i64 t183)).setCell ⟨gb188,1,none⟩ (.int .i64 t184)).setCell ⟨gb188,2,none⟩ (.bool t185)).setCell ⟨gb188,3,none⟩ (.int .i64 t186))):=⟨by repeat (first|(with_reducible first|exact HB.out|apply zz03|apply zz01|apply zz02|refine zz10 ?_ GE181.out|refine zz10 ?_ GE182.out|refine zz10 ?_ GE188.out)|exact HB.out)⟩
    (try clear BK181)
    (try clear BK182)
    (try clear BK188)
    (try clear HB)
    generalize ((((w37.setCell ⟨gb188,0,none⟩ (.int .i64 t183)).setCell ⟨gb188,1,none⟩ (.int .i64 t184)).setCell ⟨gb188,2,none⟩ (.bool t185)).setCell ⟨gb188,3,none⟩ (.int .i64 t186)) = w41 at n0_ n1_ n2_ n3_ ⊢
    have BK181 := n0_
    have BK182 := n1_
    have BK188 := n2_
    have HB := n3_
    clear n0_ n1_ n2_ n3_
    have n0_ := zz00 (zz09 BK181.out)
    have n1_ := zz00 (zz09 BK182.out)
    have n2_ := zz00 (zz09 BK188.out)
    have n3_ := zz00 (zz02 HB.out)
    clear BK181
    clear BK182
    clear BK188
    clear HB
    have BK181 := n0_
    have BK182 := n1_
    have BK188 := n2_
    have HB := n3_
    clear n0_ n1_ n2_ n3_
    refine start_ (n:=14) (S:=fun w'=>w'.cell? ⟨gb181,0,none⟩ = some (.int .i64 a0_0) ∧ w'.cell? ⟨gb181,1,none⟩ = some (.int .i64 a0_1) ∧ w'.cell? ⟨gb181,2,none⟩ = some (.bool a0_2) ∧ w'.cell? ⟨gb181,3,none⟩ = some (.int .i64 a0_3) ∧ w'.cell? ⟨gb188,0,none⟩ = some (.int .i64 t183) ∧ w'.cell? ⟨gb188,1,none⟩ = some (.int .i64 t184) ∧ w'.cell? ⟨gb188,2,none⟩ = some (.bool t185) ∧ w'.cell? ⟨gb188,3,none⟩ = some (.int .i64 t186)) (ds:=[]) #[false,false,false,false,false,false,false,false,false,false,false,false,false,false] (by kernel_rfl) rfl rfl ⟨(zz18 BK181.out 0).trans rfl,(zz18 BK181.out 1).trans rfl,(zz18 BK181.out 2).trans rfl,(zz18 BK181.out 3).trans rfl,(zz18 BK188.out 0).trans rfl,(zz18 BK188.out 1).trans rfl,(zz18 BK188.out 2).trans rfl,(zz18 BK188.out 3).trans rfl⟩ (fun hHeld=>?_);refine with_tabW heb_look.tab4 heb_look.bits4 (fun HT_ HW_=>?_)
    generalize w41.drew = w42 at BK181 BK182 BK188 HB hHeld ⊢
    refine pure_ (i:=0) (N:=some 20) (v:=?_) (a':=?_) #[true,false,false,false,false,false,false,false,false,false,false,false,false,false] rfl rfl (any_of HT_.out (by kernel_rfl)) (fun _ _ _ h=>h) (Or.inl ⟨by rfl,?_⟩) ?_ ?_
    rotate_left
    ·
     intro w'
     go_simp
     with_reducible rfl
    rotate_left
    ·
     simp only [Act.put, zz11, zz12, zz13, i64_w, i32_w]
     rfl
    refine take_ (i:=1) (N:=some 21) (v:=?_) (a':=?_) #[true,true,false,false,false,false,false,false,false,false,false,false,false,false] rfl rfl (take_ofW HT_.out HW_.out (by kernel_rfl)) (fun _ _ _ h=>h) (Or.inl ⟨by rfl,?_⟩) hHeld ?_ ?_
    rotate_left
    ·
     rintro w' ⟨s0, s1, s2, s3, s4, s5, s6, s7⟩
     go_simp
     with_reducible rfl
    rotate_left
    ·
     simp only [Act.put, zz11, zz12, zz13, i64_w, i32_w]
     rfl
    refine pure_ (i:=2) (N:=some 22) (v:=?_) (a':=?_) #[true,true,true,false,false,false,false,false,false,false,false,false,false,false] rfl rfl (any_of HT_.out (by kernel_rfl)) (fun _ _ _ h=>h) (Or.inl ⟨by rfl,?_⟩) ?_ ?_
    rotate_left
    ·
     intro w'
     go_simp
     with_reducible rfl
    rotate_left
    ·
     simp only [Act.put, zz11, zz12, zz13, i64_w, i32_w]
     rfl
    refine pure_ (i:=3) (N:=some 23) (v:=?_) (a':=?_) #[true,true,true,true,false,false,false,false,false,false,false,false,false,false] rfl rfl (any_of HT_.out (by kernel_rfl)) (fun _ _ _ h=>h) (Or.inl ⟨by rfl,?_⟩) ?_ ?_
    rotate_left
    ·
     intro w'
     go_simp
     with_reducible rfl
    rotate_left
    ·
     simp only [Act.put, zz11, zz12, zz13, i64_w, i32_w]
     rfl
    refine pure_ (i:=4) (N:=some 24) (v:=?_) (a':=?_) #[true,true,true,true,true,false,false,false,false,false,false,false,false,false] rfl rfl (any_of HT_.out (by kernel_rfl)) (fun _ _ _ h=>h) (Or.inl ⟨by rfl,?_⟩) ?_ ?_
    rotate_left
    ·
     intro w'
     go_simp
     with_reducible rfl
    rotate_left
    ·
     simp only [Act.put, zz11, zz12, zz13, i64_w, i32_w]
     rfl
    refine pure_ (i:=6) (N:=some 26) (v:=?_) (a':=?_) #[true,true,true,true,true,false,true,false,false,false,false,false,false,false] rfl rfl (any_of HT_.out (by kernel_rfl)) (fun _ _ _ h=>h) (Or.inl ⟨by rfl,?_⟩) ?_ ?_
    rotate_left
    ·
     intro w'
     go_simp
     with_reducible rfl
    rotate_left
    ·
     simp only [Act.put, zz11, zz12, zz13, i64_w, i32_w]
     rfl
    refine pure_ (i:=8) (N:=some 28) (v:=?_) (a':=?_) #[true,true,true,true,true,false,true,false,true,false,false,false,false,false] rfl rfl (any_of HT_.out (by kernel_rfl)) (fun _ _ _ h=>h) (Or.inl ⟨by rfl,?_⟩) ?_ ?_
    rotate_left
    ·
     intro w'
     go_simp
     with_reducible rfl
    rotate_left
    ·
     simp only [Act.put, zz11, zz12, zz13, i64_w, i32_w]
     rfl
    refine take_ (i:=5) (N:=some 25) (v:=?_) (a':=?_) #[true,true,true,true,true,true,true,false,true,false,false,false,false,false] rfl rfl (take_ofW HT_.out HW_.out (by kernel_rfl)) (fun _ _ _ h=>h) (Or.inl ⟨by rfl,?_⟩) hHeld ?_ ?_
    rotate_left
    ·
     rintro w' ⟨s0, s1, s2, s3, s4, s5, s6, s7⟩
     go_simp
     with_reducible rfl
    rotate_left
    ·
     simp only [Act.put, zz11, zz12, zz13, i64_w, i32_w]
     rfl
    refine take_ (i:=7) (N:=some 27) (v:=?_) (a':=?_) #[true,true,true,true,true,true,true,true,true,false,false,false,false,false] rfl rfl (take_ofW HT_.out HW_.out (by kernel_rfl)) (fun _ _ _ h=>h) (Or.inl ⟨by rfl,?_⟩) hHeld ?_ ?_
    rotate_left
    ·
     rintro w' ⟨s0, s1, s2, s3, s4, s5, s6, s7⟩
     go_simp
     with_reducible rfl
    rotate_left
    ·
     simp only [Act.put, zz11, zz12, zz13, i64_w, i32_w]
     rfl
    refine take_ (i:=9) (N:=some 29) (v:=?_) (a':=?_) #[true,true,true,true,true,true,true,true,true,true,false,false,false,false] rfl rfl (take_ofW HT_.out HW_.out (by kernel_rfl)) (fun _ _ _ h=>h) (Or.inl ⟨by rfl,?_⟩) hHeld ?_ ?_
    rotate_left
    ·
     rintro w' ⟨s0, s1, s2, s3, s4, s5, s6, s7⟩
     go_simp
     with_reducible rfl
    rotate_left
    ·
     simp only [Act.put, zz11, zz12, zz13, i64_w, i32_w]
     rfl
    refine one_ (i := 10) (N := some 30) #[true, true, true, true, true, true, true, true, true, true, true, false, false, false] rfl rfl (one_of HT_.out (by kernel_rfl)) (by decide) (fun K hK => ?_)
    refine goes_ Tryz.func102 (by kernel_rfl) rfl #[.agg #[.int .i64 t183,.int .i64 t184,.bool t185],.int .i64 t186] (by rfl) rfl rfl (by (try simp only [List.map_toArray,List.map_cons,List.map_nil]);first|done|rfl|(simp only [List.length_drop,List.length_take];rfl)) ?_
    with_reducible refine (month_Days.calls t183 t184 t185 t186 t189 _ ?side1 A17.out).mono ?_
    (case side1=>exact GlobT.below HGT (by repeat (first|(with_reducible first|exact HB.out|apply zz03|apply zz01|apply zz02|refine zz10 ?_ GE181.out|refine zz10 ?_ GE182.out|refine zz10 ?_ GE188.out)|exact HB.out)))
    rintro e w43 ⟨rfl, hb⟩
    refine ⟨_, rfl, ?_⟩
    have n0_:=zz00 (zz34 (g:=gb181) (o:=.cells #[.int .i64 a0_0,.int .i64 a0_1,.bool a0_2,.int .i64 a0_3] 34 (0,0)) (by (with_reducible repeat (first|refine zz07 ?_ _|refine zz09 ?_|refine zz08 ?_ _));exact BK181.out) hb)
    have n1_:=zz00 (zz34 (g:=gb182) (o:=.cells #[.int .i64 0,.int .i64 0,.bool false,.int .i64 0] 95 (0,0)) (by (with_reducible repeat (first|refine zz07 ?_ _|refine zz09 ?_|refine zz08 ?_ _));exact BK182.out) hb)
    have n2_:=zz00 (zz34 (g:=gb188) (o:=.cells #[.int .i64 t183,.int .i64 t184,.bool t185,.int .i64 t186] 95 (0,0)) (by (with_reducible repeat (first|refine zz07 ?_ _|refine zz09 ?_|refine zz08 ?_ _));exact BK188.out) hb)
    have n3_:=zz00 (zz21 (by repeat (first|(with_reducible first|exact HB.out|apply zz03|apply zz01|apply zz02|refine zz10 ?_ GE181.out|refine zz10 ?_ GE182.out|refine zz10 ?_ GE188.out)|exact HB.out)) hb)
    clear BK181
    clear BK182
    clear BK188
    clear HB
    have BK181 := n0_
    have BK182 := n1_
    have BK188 := n2_
    have HB := n3_
    clear n0_ n1_ n2_ n3_
    (try clear hb)
    (try clear hb2)
    (try clear hk)
    (try clear hi)
    refine hK.out _ _ ⟨(zz18 BK181.out 0).trans rfl,(zz18 BK181.out 1).trans rfl,(zz18 BK181.out 2).trans rfl,(zz18 BK181.out 3).trans rfl,(zz18 BK188.out 0).trans rfl,(zz18 BK188.out 1).trans rfl,(zz18 BK188.out 2).trans rfl,(zz18 BK188.out 3).trans rfl⟩ (fun hHeld=>?_)
    clear hK K
    refine norm_ (a' := ?_) ?_ ?_
    rotate_left
    ·
     show Act.put _ (some 30) _ = _
     simp only [Act.put, zz11, zz12, zz13, i64_w, i32_w]
     rfl
    refine pure_ (i:=11) (N:=some 31) (v:=?_) (a':=?_) #[true,true,true,true,true,true,true,true,true,true,true,true,false,false] rfl rfl (any_of HT_.out (by kernel_rfl)) (fun _ _ _ h=>h) (Or.inl ⟨by rfl,?_⟩) ?_ ?_
    rotate_left
    ·
     intro w'
     go_simp
     with_reducible rfl
    rotate_left
    ·
     simp only [Act.put, zz11, zz12, zz13, i64_w, i32_w]
     rfl
    refine pure_ (i:=12) (N:=some 32) (v:=?_) (a':=?_) #[true,true,true,true,true,true,true,true,true,true,true,true,true,false] rfl rfl (any_of HT_.out (by kernel_rfl)) (fun _ _ _ h=>h) (Or.inl ⟨by rfl,?_⟩) ?_ ?_
    rotate_left
    ·
     intro w'
     go_simp
     with_reducible rfl
    rotate_left
    ·
     simp only [Act.put, zz11, zz12, zz13, i64_w, i32_w]
     rfl
    refine pure_ (i:=13) (N:=some 19) (v:=?_) (a':=?_) #[true,true,true,true,true,true,true,true,true,true,true,true,true,true] rfl rfl (any_of HT_.out (by kernel_rfl)) (fun _ _ _ h=>h) (Or.inl ⟨by rfl,?_⟩) ?_ ?_
    rotate_left
    ·
     intro w'
     go_simp
     with_reducible rfl
    rotate_left
    ·
     simp only [Act.put, zz11, zz12, zz13, i64_w, i32_w]
     rfl
    refine done_ (done_of HT_.out (by kernel_rfl)) ?_
    have hcz44_0 : w43.cell? ⟨gb188, 0, none⟩ = some (.int .i64 t183) := (zz18 BK188.out 0).trans rfl
    have hcz44_1 : w43.cell? ⟨gb188, 1, none⟩ = some (.int .i64 t184) := (zz18 BK188.out 1).trans rfl
    have hcz44_2 : w43.cell? ⟨gb188, 2, none⟩ = some (.bool t185) := (zz18 BK188.out 2).trans rfl
    have hcz44_3 : w43.cell? ⟨gb188, 3, none⟩ = some (.int .i64 t186) := (zz18 BK188.out 3).trans rfl
    have hfz44_0 := zz17 BK188.out 0
    have hfz44_1 := zz17 BK188.out 1
    have hfz44_2 := zz17 BK188.out 2
    have hfz44_3 := zz17 BK188.out 3
    have hcz45_0 : w43.cell? ⟨gb182, 0, none⟩ = some (.int .i64 0) := (zz18 BK182.out 0).trans rfl
    have hcz45_1 : w43.cell? ⟨gb182, 1, none⟩ = some (.int .i64 0) := (zz18 BK182.out 1).trans rfl
    have hcz45_2 : w43.cell? ⟨gb182, 2, none⟩ = some (.bool false) := (zz18 BK182.out 2).trans rfl
    have hcz45_3 : w43.cell? ⟨gb182, 3, none⟩ = some (.int .i64 0) := (zz18 BK182.out 3).trans rfl
    have hfz45_0 := zz17 BK182.out 0
    have hfz45_1 := zz17 BK182.out 1
    have hfz45_2 := zz17 BK182.out 2
    have hfz45_3 := zz17 BK182.out 3
    try go_wp2
    refine bodyPost_ret (results_ct rfl _ _ gb182 95 #[.int .i64 t183,.int .i64 t184,.bool t185,.int .i64 t186] (0,0) _ rfl (by (with_reducible repeat (first|refine zz07 ?_ _|refine zz09 ?_|refine zz08 ?_ _));refine zz35 (cs:=#[.int .i64 t183,.int .i64 t184,.bool t185,.int .i64 0]) ?_ 3 _ rfl;(with_reducible repeat (first|refine zz07 ?_ _|refine zz09 ?_|refine zz08 ?_ _));refine zz35 (cs:=#[.int .i64 t183,.int .i64 t184,.bool false,.int .i64 0]) ?_ 2 _ rfl;(with_reducible repeat (first|refine zz07 ?_ _|refine zz09 ?_|refine zz08 ?_ _));refine zz35 (cs:=#[.int .i64 t183,.int .i64 0,.bool false,.int .i64 0]) ?_ 1 _ rfl;(with_reducible repeat (first|refine zz07 ?_ _|refine zz09 ?_|refine zz08 ?_ _));refine zz35 (cs:=#[.int .i64 0,.int .i64 0,.bool false,.int .i64 0]) ?_ 0 _ rfl;(with_reducible repeat (first|refine zz07 ?_ _|refine zz09 ?_|refine zz08 ?_ _));exact BK182.out) Tryz.underlying95 rfl (by kernel_rfl)) rfl ?_
    exact ⟨by first|rfl|(simp [errW_none,errW_some] <;> rfl)|(simp [*,errW_none,errW_some] <;> rfl),by repeat (first|(with_reducible first|exact HB.out|apply zz03|apply zz01|apply zz02|refine zz10 ?_ GE181.out|refine zz10 ?_ GE182.out|refine zz10 ?_ GE188.out)|exact HB.out)⟩
 ·
  rw [if_neg c3] at H
  have c3b0 : (t187 == 0) = false := zz27.mpr c3
  have c3b1 : (t187 != 0) = true := zz28.mpr c3
  simp only [zz15, zz16] at H
  obtain ⟨rfl, rfl, rfl, rfl, rfl⟩ := H
  go_enter Tryz.func79, Tryz.ntmps79
  go_wp2_with (first|((with_reducible refine zz24 (N:=1) rfl ?_);refine zz30 ?hg (N:=1) ?hd (cs:=#[.int .i64 a0_0,.int .i64 a0_1,.bool a0_2,.int .i64 a0_3]) (t:=34) ?hr ?_;(case hd=>rfl);(case hg=>rfl);(case hr=>first|(go_simp;done)|(go_simp;rfl));intro gb181 hg w46 hbox hb;have n0_:=zz00 (zz21 (by repeat (first|(with_reducible first|exact HB.out|apply zz03|apply zz01|apply zz02)|exact HB.out)) hb);have n1_:=zz00 (hbox);have n2_:=zz00 ((by rw [hg];exact (zz22 (by repeat (first|(with_reducible first|exact HB.out|apply zz03|apply zz01|apply zz02)|exact HB.out))) : w.heap.size ≤ gb181));have n3_:=zz00 ((by rw [hg];exact (zz22 (by repeat (first|(with_reducible first|exact HB.out|apply zz03|apply zz01|apply zz02)|exact HB.out))) : w.heap.size ≤ gb181));clear HB;have HB:=n0_;have BK181:=n1_;have GW181:=n2_;have GE181:=n3_;clear n0_ n1_ n2_ n3_;clear hb hbox hg)|((with_reducible refine zz24 (N:=2) rfl ?_);refine zz30 ?hg (N:=2) ?hd (cs:=#[.int .i64 0,.int .i64 0,.bool false,.int .i64 0]) (t:=95) ?hr ?_;(case hd=>rfl);(case hg=>rfl);(case hr=>first|(go_simp;done)|(go_simp;rfl));intro gb182 hg w47 hbox hb;have n0_:=zz00 (zz34 (g:=gb181) (o:=.cells #[.int .i64 a0_0,.int .i64 a0_1,.bool a0_2,.int .i64 a0_3] 34 (0,0)) (by (with_reducible repeat (first|refine zz07 ?_ _|refine zz09 ?_|refine zz08 ?_ _));exact BK181.out) hb);have n1_:=zz00 (zz21 (by repeat (first|(with_reducible first|exact HB.out|apply zz03|apply zz01|apply zz02|refine zz10 ?_ GE181.out)|exact HB.out)) hb);have n2_:=zz00 (hbox);have n3_:=zz00 ((by rw [hg];exact (zz22 (by repeat (first|(with_reducible first|exact HB.out|apply zz03|apply zz01|apply zz02|refine zz10 ?_ GE181.out)|exact HB.out))) : w.heap.size ≤ gb182));have n4_:=zz00 ((by rw [hg];exact (zz22 (by repeat (first|(with_reducible first|exact HB.out|apply zz03|apply zz01|apply zz02|refine zz10 ?_ GE181.out)|exact HB.out))) : w.heap.size ≤ gb182));have n5_:=zz00 ((by rw [hg];exact Nat.ne_of_lt (blk_lt (g:=gb181) (o:=.cells #[.int .i64 a0_0,.int .i64 a0_1,.bool a0_2,.int .i64 a0_3] 34 (0,0)) (by (with_reducible repeat (first|refine zz07 ?_ _|refine zz09 ?_|refine zz08 ?_ _));exact BK181.out)) : gb181 ≠ gb182));have n6_:=zz00 ((by rw [hg];exact Nat.ne_of_gt (blk_lt (g:=gb181) (o:=.cells #[.int .i64 a0_0,.int .i64 a0_1,.bool a0_2,.int .i64 a0_3] 34 (0,0)) (by (with_reducible repeat (first|refine zz07 ?_ _|refine zz09 ?_|refine zz08 ?_ _));exact BK181.out)) : gb182 ≠ gb181));clear BK181;clear HB;have BK181:=n0_;have HB:=n1_;have BK182:=n2_;have GW182:=n3_;have GE182:=n4_;have NB181_182:=n5_;have NB182_181:=n6_;clear n0_ n1_ n2_ n3_ n4_ n5_ n6_;clear hb hbox hg;have hnb48:=NB181_182.out;have hnc48:=NB182_181.out;have hcz49_0 : w47.cell? ⟨gb181,0,none⟩ = some (.int .i64 a0_0):=(zz18 BK181.out 0).trans rfl;have hcz49_1 : w47.cell? ⟨gb181,1,none⟩ = some (.int .i64 a0_1):=(zz18 BK181.out 1).trans rfl;have hcz49_2 : w47.cell? ⟨gb181,2,none⟩ = some (.bool a0_2):=(zz18 BK181.out 2).trans rfl;have hcz49_3 : w47.cell? ⟨gb181,3,none⟩ = some (.int .i64 a0_3):=(zz18 BK181.out 3).trans rfl;have hfz49_0:=zz17 BK181.out 0;have hfz49_1:=zz17 BK181.out 1;have hfz49_2:=zz17 BK181.out 2;have hfz49_3:=zz17 BK181.out 3)|((with_reducible refine zz23 (f:=101) rfl ?_);refine zz25 (some 11) rfl rfl Tryz.func101 (by kernel_rfl) rfl #[.int .i64 a0_0,.agg #[.int .i64 a0_1,.bool a0_2]] rfl (by (try simp only [List.map_toArray,List.map_cons,List.map_nil]);first|done|rfl|(simp only [List.length_drop,List.length_take];rfl)) ?_;(with_reducible refine (heb_find.calls k a0_0 a0_1 a0_2 t183 t184 t185 t186 t187 _ A2.out).mono ?_);rintro e w50 ⟨rfl,hb⟩;refine ⟨_,rfl,?_⟩;have n0_:=zz00 (zz34 (g:=gb181) (o:=.cells #[.int .i64 a0_0,.int .i64 a0_1,.bool a0_2,.int .i64 a0_3] 34 (0,0)) (by (with_reducible repeat (first|refine zz07 ?_ _|refine zz09 ?_|refine zz08 ?_ _));exact BK181.out) hb);have n1_:=zz00 (zz34 (g:=gb182) (o:=.cells #[.int .i64 0,.int .i64 0,.bool false,.int .i64 0] 95 (0,0)) (by (with_reducible repeat (first|refine zz07 ?_ _|refine zz09 ?_|refine zz08 ?_ _));exact BK182.out) hb);have n2_:=zz00 (zz21 (by repeat (first|(with_reducible first|exact HB.out|apply zz03|apply zz01|apply zz02|refine zz10 ?_ GE181.out|refine zz10 ?_ GE182.out)|exact HB.out)) hb);clear BK181;clear BK182;clear HB;have BK181:=n0_;have BK182:=n1_;have HB:=n2_;clear n0_ n1_ n2_;(try clear hb);(try clear hb2);(try clear hk);(try clear hi))|((with_reducible refine zz24 (N:=4) rfl ?_);refine zz30 ?hg (N:=4) ?hd (cs:=#[.int .i64 0,.int .i64 0,.bool false,.int .i64 0]) (t:=95) ?hr ?_;(case hd=>rfl);(case hg=>rfl);(case hr=>first|(go_simp;done)|(go_simp;rfl));intro gb188 hg w51 hbox hb;have n0_:=zz00 (zz34 (g:=gb181) (o:=.cells #[.int .i64 a0_0,.int .i64 a0_1,.bool a0_2,.int .i64 a0_3] 34 (0,0)) (by (with_reducible repeat (first|refine zz07 ?_ _|refine zz09 ?_|refine zz08 ?_ _));exact BK181.out) hb);have n1_:=zz00 (zz34 (g:=gb182) (o:=.cells #[.int .i64 0,.int .i64 0,.bool false,.int .i64 0] 95 (0,0)) (by (with_reducible repeat (first|refine zz07 ?_ _|refine zz09 ?_|refine zz08 ?_ _));exact BK182.out) hb);have n2_:=zz00 (zz21 (by repeat (first|(with_reducible first|exact HB.out|apply zz03|apply zz01|apply zz02|refine zz10 ?_ GE181.out|refine zz10 ?_ GE182.out)|exact HB.out)) hb);have n3_:=zz00 (hbox);have n4_:=zz00 ((by rw [hg];exact (zz22 (by repeat (first|(with_reducible first|exact HB.out|apply zz03|apply zz01|apply zz02|refine zz10 ?_ GE181.out|refine zz10 ?_ GE182.out)|exact HB.out))) : w.heap.size ≤ gb188));have n5_:=zz00 ((by rw [hg];exact (zz22 (by repeat (first|(with_reducible first|exact HB.out|apply zz03|apply zz01|apply zz02|refine zz10 ?_ GE181.out|refine zz10 ?_ GE182.out)|exact HB.out))) : w.heap.size ≤ gb188));have n6_:=zz00 ((by rw [hg];exact Nat.ne_of_lt (blk_lt (g:=gb181) (o:=.cells #[.int .i64 a0_0,.int .i64 a0_1,.bool a0_2,.int .i64 a0_3] 34 (0,0)) (by (with_reducible repeat (first|refine zz07 ?_ _|refine zz09 ?_|refine zz08 ?_ _));exact BK181.out)) : gb181 ≠ gb188));have n7_:=zz00 ((by rw [hg];exact Nat.ne_of_gt (blk_lt (g:=gb181) (o:=.cells #[.int .i64 a0_0,.int .i64 a0_1,.bool a0_2,.int .i64 a0_3] 34 (0,0)) (by (with_reducible repeat (first|refine zz07 ?_ _|refine zz09 ?_|refine zz08 ?_ _));exact BK181.out)) : gb188 ≠ gb181));have n8_:=zz00 ((by rw [hg];exact Nat.ne_of_lt (blk_lt (g:=gb182) (o:=.cells #[.int .i64 0,.int .i64 0,.bool false,.int .i64 0] 95 (0,0)) (by (with_reducible repeat (first|refine zz07 ?_ _|refine zz09 ?_|refine zz08 ?_ _));exact BK182.out)) : gb182 ≠ gb188));have n9_:=zz00 ((by rw [hg];exact Nat.ne_of_gt (blk_lt (g:=gb182) (o:=.cells #[.int .i64 0,.int .i64 0,.bool false,.int .i64 0] 95 (0,0)) (by (with_reducible repeat (first|refine zz07 ?_ _|refine zz09 ?_|refine zz08 ?_ _));exact BK182.out)) : gb188 ≠ gb182));clear BK181;clear BK182;clear HB;have BK181:=n0_;have BK182:=n1_;have HB:=n2_;have BK188:=n3_;have GW188:=n4_;have GE188:=n5_;have NB181_188:=n6_;have NB188_181:=n7_;have NB182_188:=n8_;have NB188_182:=n9_;clear n0_ n1_ n2_ n3_ n4_ n5_ n6_ n7_ n8_ n9_;clear hb hbox hg;have hnb52:=NB188_181.out;have hnc52:=NB181_188.out;have hnb53:=NB188_182.out;have hnc53:=NB182_188.out;have hcz54_0 : w51.cell? ⟨gb188,0,none⟩ = some (.int .i64 0):=(zz18 BK188.out 0).trans rfl;have hcz54_1 : w51.cell? ⟨gb188,1,none⟩ = some (.int .i64 0):=(zz18 BK188.out 1).trans rfl;have hcz54_2 : w51.cell? ⟨gb188,2,none⟩ = some (.bool false):=(zz18 BK188.out 2).trans rfl;have hcz54_3 : w51.cell? ⟨gb188,3,none⟩ = some (.int .i64 0):=(zz18 BK188.out 3).trans rfl;have hfz54_0:=zz17 BK188.out 0;have hfz54_1:=zz17 BK188.out 1;have hfz54_2:=zz17 BK188.out 2;have hfz54_3:=zz17 BK188.out 3;have hcz55_0 : w51.cell? ⟨gb182,0,none⟩ = some (.int .i64 0):=(zz18 BK182.out 0).trans rfl;have hcz55_1 : w51.cell? ⟨gb182,1,none⟩ = some (.int .i64 0):=(zz18 BK182.out 1).trans rfl;have hcz55_2 : w51.cell? ⟨gb182,2,none⟩ = some (.bool false):=(zz18 BK182.out 2).trans rfl;have hcz55_3 : w51.cell? ⟨gb182,3,none⟩ = some (.int .i64 0):=(zz18 BK182.out 3).trans rfl;have hfz55_0:=zz17 BK182.out 0;have hfz55_1:=zz17 BK182.out 1;have hfz55_2:=zz17 BK182.out 2;have hfz55_3:=zz17 BK182.out 3))
  refine bodyPost_ret (results_ct rfl _ _ gb182 95 #[.int .i64 0,.int .i64 0,.bool false,.int .i64 0] (0,0) _ rfl (by (with_reducible repeat (first|refine zz07 ?_ _|refine zz09 ?_|refine zz08 ?_ _));refine zz35 (cs:=#[.int .i64 0,.int .i64 0,.bool false,.int .i64 0]) ?_ 3 _ rfl;(with_reducible repeat (first|refine zz07 ?_ _|refine zz09 ?_|refine zz08 ?_ _));refine zz35 (cs:=#[.int .i64 0,.int .i64 0,.bool false,.int .i64 0]) ?_ 2 _ rfl;(with_reducible repeat (first|refine zz07 ?_ _|refine zz09 ?_|refine zz08 ?_ _));refine zz35 (cs:=#[.int .i64 0,.int .i64 0,.bool false,.int .i64 0]) ?_ 1 _ rfl;(with_reducible repeat (first|refine zz07 ?_ _|refine zz09 ?_|refine zz08 ?_ _));refine zz35 (cs:=#[.int .i64 0,.int .i64 0,.bool false,.int .i64 0]) ?_ 0 _ rfl;(with_reducible repeat (first|refine zz07 ?_ _|refine zz09 ?_|refine zz08 ?_ _));refine zz33 ?_ NB182_188.out _;(with_reducible repeat (first|refine zz07 ?_ _|refine zz09 ?_|refine zz08 ?_ _));refine zz33 ?_ NB182_188.out _;(with_reducible repeat (first|refine zz07 ?_ _|refine zz09 ?_|refine zz08 ?_ _));refine zz33 ?_ NB182_188.out _;(with_reducible repeat (first|refine zz07 ?_ _|refine zz09 ?_|refine zz08 ?_ _));refine zz33 ?_ NB182_188.out _;(with_reducible repeat (first|refine zz07 ?_ _|refine zz09 ?_|refine zz08 ?_ _));exact BK182.out) Tryz.underlying95 rfl (by kernel_rfl)) rfl ?_
  exact ⟨by first|rfl|(simp [errW_none,errW_some] <;> rfl)|(simp [*,errW_none,errW_some] <;> rfl),by repeat (first|(with_reducible first|exact HB.out|apply zz03|apply zz01|apply zz02|refine zz10 ?_ GE181.out|refine zz10 ?_ GE182.out|refine zz10 ?_ GE188.out)|exact HB.out)⟩

def heb_Check.f (k : Nat) (a0_0 : Int) (a0_1 : Int) (a0_2 : Bool) (a0_3 : Int) : Option (Int) := (heb_look.f k a0_0 a0_1 a0_2 a0_3).bind fun bt191 => (some bt191.2.2.2.2)
set_option maxHeartbeats 8000000 in
set_option maxRecDepth 100000 in
theorem heb_Check.calls (k : Nat) (a0_0 : Int) (a0_1 : Int) (a0_2 : Bool) (a0_3 : Int) (r : Int) (w : World) (HGT : GlobT w) (h : heb_Check.f k a0_0 a0_1 a0_2 a0_3 = some r) :
  Calls Tryz.prog 50 #[.agg #[.int .i64 a0_0, .int .i64 a0_1, .bool a0_2, .int .i64 a0_3]] w fun e w' => e = .returned (.int .i64 r) ∧ Below w.heap.size w w' := by
 have hu34 := Tryz.underlying34
 have hu95 := Tryz.underlying95
 have HB := zz00 (Below.refl w.heap.size w)
 have H : ((heb_look.f k a0_0 a0_1 a0_2 a0_3).bind fun bt191 => (some bt191.2.2.2.2)) = some r := h
 clear h
 replace H := zz14.mp H
 obtain ⟨⟨t191, t192, t193, t194, t195⟩, A20, H⟩ := H
 replace H : (some t195) = some r := H
 have A2 := zz00 A20
 clear A20
 obtain rfl := Option.some.inj H
 go_enter Tryz.func50, Tryz.ntmps50
 go_wp2_with (first|((with_reducible refine zz24 (N:=1) rfl ?_);refine zz30 ?hg (N:=1) ?hd (cs:=#[.int .i64 a0_0,.int .i64 a0_1,.bool a0_2,.int .i64 a0_3]) (t:=34) ?hr ?_;(case hd=>rfl);(case hg=>rfl);(case hr=>first|(go_simp;done)|(go_simp;rfl));intro gb190 hg w3 hbox hb;have n0_:=zz00 (zz21 (by repeat (first|(with_reducible first|exact HB.out|apply zz03|apply zz01|apply zz02)|exact HB.out)) hb);have n1_:=zz00 (hbox);have n2_:=zz00 ((by rw [hg];exact (zz22 (by repeat (first|(with_reducible first|exact HB.out|apply zz03|apply zz01|apply zz02)|exact HB.out))) : w.heap.size ≤ gb190));have n3_:=zz00 ((by rw [hg];exact (zz22 (by repeat (first|(with_reducible first|exact HB.out|apply zz03|apply zz01|apply zz02)|exact HB.out))) : w.heap.size ≤ gb190));clear HB;have HB:=n0_;have BK190:=n1_;have GW190:=n2_;have GE190:=n3_;clear n0_ n1_ n2_ n3_;clear hb hbox hg;have hcz4_0 : w3.cell? ⟨gb190,0,none⟩ = some (.int .i64 a0_0):=(zz18 BK190.out 0).trans rfl;have hcz4_1 : w3.cell? ⟨gb190,1,none⟩ = some (.int .i64 a0_1):=(zz18 BK190.out 1).trans rfl;have hcz4_2 : w3.cell? ⟨gb190,2,none⟩ = some (.bool a0_2):=(zz18 BK190.out 2).trans rfl;have hcz4_3 : w3.cell? ⟨gb190,3,none⟩ = some (.int .i64 a0_3):=(zz18 BK190.out 3).trans rfl;have hfz4_0:=zz17 BK190.out 0;have hfz4_1:=zz17 BK190.out 1;have hfz4_2:=zz17 BK190.out 2;have hfz4_3:=zz17 BK190.out 3)|((with_reducible refine zz23 (f:=79) rfl ?_);refine zz25 (some 7) rfl rfl Tryz.func79 (by kernel_rfl) rfl #[.agg #[.int .i64 a0_0,.int .i64 a0_1,.bool a0_2,.int .i64 a0_3]] rfl (by (try simp only [List.map_toArray,List.map_cons,List.map_nil]);first|done|rfl|(simp only [List.length_drop,List.length_take];rfl)) ?_;(with_reducible refine (heb_look.calls k a0_0 a0_1 a0_2 a0_3 t191 t192 t193 t194 t195 _ ?side1 A2.out).mono ?_);(case side1=>exact GlobT.below HGT (by repeat (first|(with_reducible first|exact HB.out|apply zz03|apply zz01|apply zz02|refine zz10 ?_ GE190.out)|exact HB.out)));rintro e w5 ⟨rfl,hb⟩;refine ⟨_,rfl,?_⟩;have n0_:=zz00 (zz34 (g:=gb190) (o:=.cells #[.int .i64 a0_0,.int .i64 a0_1,.bool a0_2,.int .i64 a0_3] 34 (0,0)) (by (with_reducible repeat (first|refine zz07 ?_ _|refine zz09 ?_|refine zz08 ?_ _));exact BK190.out) hb);have n1_:=zz00 (zz21 (by repeat (first|(with_reducible first|exact HB.out|apply zz03|apply zz01|apply zz02|refine zz10 ?_ GE190.out)|exact HB.out)) hb);clear BK190;clear HB;have BK190:=n0_;have HB:=n1_;clear n0_ n1_;(try clear hb);(try clear hb2);(try clear hk);(try clear hi))|((with_reducible refine zz24 (N:=3) rfl ?_);refine zz30 ?hg (N:=3) ?hd (cs:=#[.int .i64 0,.int .i64 0,.bool false,.int .i64 0]) (t:=95) ?hr ?_;(case hd=>rfl);(case hg=>rfl);(case hr=>first|(go_simp;done)|(go_simp;rfl));intro gb196 hg w6 hbox hb;have n0_:=zz00 (zz34 (g:=gb190) (o:=.cells #[.int .i64 a0_0,.int .i64 a0_1,.bool a0_2,.int .i64 a0_3] 34 (0,0)) (by (with_reducible repeat (first|refine zz07 ?_ _|refine zz09 ?_|refine zz08 ?_ _));exact BK190.out) hb);have n1_:=zz00 (zz21 (by repeat (first|(with_reducible first|exact HB.out|apply zz03|apply zz01|apply zz02|refine zz10 ?_ GE190.out)|exact HB.out)) hb);have n2_:=zz00 (hbox);have n3_:=zz00 ((by rw [hg];exact (zz22 (by repeat (first|(with_reducible first|exact HB.out|apply zz03|apply zz01|apply zz02|refine zz10 ?_ GE190.out)|exact HB.out))) : w.heap.size ≤ gb196));have n4_:=zz00 ((by rw [hg];exact (zz22 (by repeat (first|(with_reducible first|exact HB.out|apply zz03|apply zz01|apply zz02|refine zz10 ?_ GE190.out)|exact HB.out))) : w.heap.size ≤ gb196));have n5_:=zz00 ((by rw [hg];exact Nat.ne_of_lt (blk_lt (g:=gb190) (o:=.cells #[.int .i64 a0_0,.int .i64 a0_1,.bool a0_2,.int .i64 a0_3] 34 (0,0)) (by (with_reducible repeat (first|refine zz07 ?_ _|refine zz09 ?_|refine zz08 ?_ _));exact BK190.out)) : gb190 ≠ gb196));have n6_:=zz00 ((by rw [hg];exact Nat.ne_of_gt (blk_lt (g:=gb190) (o:=.cells #[.int .i64 a0_0,.int .i64 a0_1,.bool a0_2,.int .i64 a0_3] 34 (0,0)) (by (with_reducible repeat (first|refine zz07 ?_ _|refine zz09 ?_|refine zz08 ?_ _));exact BK190.out)) : gb196 ≠ gb190));clear BK190;clear HB;have BK190:=n0_;have HB:=n1_;have BK196:=n2_;have GW196:=n3_;have GE196:=n4_;have NB190_196:=n5_;have NB196_190:=n6_;clear n0_ n1_ n2_ n3_ n4_ n5_ n6_;clear hb hbox hg;have hnb7:=NB196_190.out;have hnc7:=NB190_196.out;have hcz8_0 : w6.cell? ⟨gb196,0,none⟩ = some (.int .i64 0):=(zz18 BK196.out 0).trans rfl;have hcz8_1 : w6.cell? ⟨gb196,1,none⟩ = some (.int .i64 0):=(zz18 BK196.out 1).trans rfl;have hcz8_2 : w6.cell? ⟨gb196,2,none⟩ = some (.bool false):=(zz18 BK196.out 2).trans rfl;have hcz8_3 : w6.cell? ⟨gb196,3,none⟩ = some (.int .i64 0):=(zz18 BK196.out 3).trans rfl;have hfz8_0:=zz17 BK196.out 0;have hfz8_1:=zz17 BK196.out 1;have hfz8_2:=zz17 BK196.out 2;have hfz8_3:=zz17 BK196.out 3))
 go_ret
 exact ⟨by first|rfl|(simp [errW_none,errW_some] <;> rfl)|(simp [*,errW_none,errW_some] <;> rfl),by repeat (first|(with_reducible first|exact HB.out|apply zz03|apply zz01|apply zz02|refine zz10 ?_ GE190.out|refine zz10 ?_ GE196.out)|exact HB.out)⟩

end Go.Proofs.YtflpddhoiafhcaaGreatDoor.R
end

section
-- Written by wip/hprint.py of this repo (holes typed by hand, all else by a program) over the seat YtflpddhoiafhcaaGreatDoor.
namespace Go.Proofs.YtflpddhoiafhcaaGreatDoor.R
open Go.Proofs.YtflpddhoiafhcaaGreatDoor.H
open Go.RowKit Go.Proofs.YtflpddhoiafhcaaGreatDoorW.PrintWords Go.Proofs.YtflpddhoiafhcaaGreatDoorW.PrintLast Go.Proofs.YtflpddhoiafhcaaGreatDoorW.PrintMore
attribute [local go_sem] max2_int min2_int max_two min_two max_three min_three max_four min_four   -- for this text's walks alone
set_option linter.unusedVariables false
set_option linter.unusedSimpArgs false

attribute [local go_sem high] eqA34
def name_Print.text (m : ByteArray) (d y : Int) : List UInt8 := Lib.join [Lib.itoa d, m.data.toList, Lib.itoa y] [32]
def name_Print.f (y n : Int) (l : Bool) (d : Int) : Option (ByteArray × Int) := (heb_Check.f 30 y n l d).bind fun e => if e = 0 then (name_Month.f y n l).bind fun m => if (name_Print.text m.1 d y).length ≤ 1000 ∧ -9223372036854775808 ≤ y ∧ y ≤ 9223372036854775807 ∧ -9223372036854775808 ≤ d ∧ d ≤ 9223372036854775807 then some (⟨(name_Print.text m.1 d y).toArray⟩, m.2) else none else some (⟨#[]⟩, e)
theorem np_cell {W V : World} {g i : Nat} {u : Value} (hg : g < W.heap.size) (h : W.cell? ⟨g, i, none⟩ = some u) (hb : Below W.heap.size W V) : V.cell? ⟨g, i, none⟩ = some u := by
  rw [hb.cell hg]; exact h
theorem np_two {W V w' : World} (a : Below W.heap.size W V) (b : Below V.heap.size V w') : Below W.heap.size W w' := a.trans (b.mono a.size)
theorem np_join (V : World) (x m z : ByteArray) (hl : (Lib.join [x.data.toList, m.data.toList, z.data.toList] [32]).length ≤ 1000) :
    Calls Tryz.prog 51 #[.slice (some ⟨V.heap.size, 0, none⟩) 3 3, .string ⟨#[32]⟩] (V.alloc (Obj.cells #[.string x, .string m, .string z] 9)) fun e w' => e = .returned (.string ⟨(Lib.join [x.data.toList, m.data.toList, z.data.toList] [32]).toArray⟩) ∧ Below (V.alloc (Obj.cells #[.string x, .string m, .string z] 9)).heap.size (V.alloc (Obj.cells #[.string x, .string m, .string z] 9)) w' := by
  have hk := blk_new V (.cells #[.string x, .string m, .string z] 9)
  refine (Tryz.strings_Join V.heap.size 0 3 [x, m, z] ⟨#[32]⟩ _ (fun j u hu => ?_) (blk_lt hk) (by simp) (by simp) (by exact Nat.le_trans hl (by decide))).mono fun e w' ⟨h1, h2⟩ => ⟨h1, h2⟩
  rw [blk_cell hk]
  rcases j with _ | _ | _ | j
  · cases hu; rfl
  · cases hu; rfl
  · cases hu; rfl
  · simp at hu
set_option maxHeartbeats 8000000 in
set_option maxRecDepth 100000 in
theorem name_Print.calls (y n : Int) (l : Bool) (d : Int) (r1 : ByteArray) (r2 : Int) (w : World) (HGN : GlobN w) (HGS : GlobS w) (HGT : GlobT w) (h : name_Print.f y n l d = some (r1, r2)) :
    Calls Tryz.prog 18 #[.agg #[.int .i64 y, .int .i64 n, .bool l, .int .i64 d]] w fun e w' => e = .returned (.tuple #[.string r1, .int .i64 r2]) ∧ Below w.heap.size w w' := by
  unfold name_Print.f at h
  obtain ⟨ec, hc, h⟩ := Option.bind_eq_some_iff.1 h
  have HB0 := Aside0.mk (below_alloc (Below.refl w.heap.size w) (Obj.cells #[.int .i64 y, .int .i64 n, .bool l, .int .i64 d] 34))
  have HK0 := Aside0.mk (blk_new w (.cells #[.int .i64 y, .int .i64 n, .bool l, .int .i64 d] 34))
  have HCH : Aside0 (∀ V, GlobT V → Calls Tryz.prog 50 #[.agg #[.int .i64 y, .int .i64 n, .bool l, .int .i64 d]] V fun e w' => e = .returned (.int .i64 ec) ∧ Below V.heap.size V w') := ⟨fun V hV => heb_Check.calls 30 y n l d ec V hV hc⟩
  have HN0 := Aside0.mk (HGN.below HB0.out)
  have HT0 := Aside0.mk (HGT.below HB0.out)
  have HS0 := Aside0.mk (HGS.below HB0.out)
  have H := Aside0.mk h
  clear h hc HGN HGT HGS
  go_enter Tryz.func18, Tryz.ntmps18
  go_wp2_with fail
  generalize w.alloc (Obj.cells #[.int .i64 y, .int .i64 n, .bool l, .int .i64 d] 34) = W at HB0 HK0 HN0 HT0 HS0 ⊢
  refine (HCH.out _ HT0.out).mono ?_
  rintro e W1 ⟨rfl, hb1⟩
  have HB1 := Aside0.mk (HB0.out.trans (hb1.mono HB0.out.size))
  have HK1 := Aside0.mk (blk_below HK0.out hb1)
  have HN1 := Aside0.mk (HN0.out.below hb1)
  have HT1 := Aside0.mk (HT0.out.below hb1)
  have HS1 := Aside0.mk (HS0.out.below hb1)
  clear hb1 HB0 HK0 HN0 HT0 HS0 HCH
  have H2 := H.out
  clear H
  by_cases he : ec = 0
  · subst he
    rw [if_pos rfl] at H2
    obtain ⟨⟨m, em⟩, hm, H3⟩ := Option.bind_eq_some_iff.1 H2
    simp only at H3
    by_cases hr : (name_Print.text m d y).length ≤ 1000 ∧ -9223372036854775808 ≤ y ∧ y ≤ 9223372036854775807 ∧ -9223372036854775808 ≤ d ∧ d ≤ 9223372036854775807
    · rw [if_pos hr] at H3
      have h' := Option.some.inj H3
      simp only [Prod.mk.injEq] at h'
      obtain ⟨rfl, rfl⟩ := h'
      obtain ⟨hl, y0, y1, d0, d1⟩ := hr
      have HM : Aside0 (∀ V, GlobN V → GlobT V → Calls Tryz.prog 16 #[.int .i64 y, .agg #[.int .i64 n, .bool l]] V fun e w' => e = .returned (.tuple #[.string m, .int .i64 em]) ∧ Below V.heap.size V w') := ⟨fun V hN hT => name_Month.calls y n l m em V hN hT hm⟩
      have HI1 : Aside0 (∀ V, GlobS V → Calls Tryz.prog 52 #[.int .i64 d] V fun e w' => e = .returned (.string ⟨(Lib.itoa d).toArray⟩) ∧ Below V.heap.size V w') := ⟨fun V hV => itoa_of d d0 d1 V hV⟩
      have HI2 : Aside0 (∀ V, GlobS V → Calls Tryz.prog 52 #[.int .i64 y] V fun e w' => e = .returned (.string ⟨(Lib.itoa y).toArray⟩) ∧ Below V.heap.size V w') := ⟨fun V hV => itoa_of y y0 y1 V hV⟩
      have HJ : Aside0 (∀ V : World, Calls Tryz.prog 51 #[.slice (some ⟨V.heap.size, 0, none⟩) 3 3, .string ⟨#[32]⟩] (V.alloc (Obj.cells #[.string ⟨(Lib.itoa d).toArray⟩, .string m, .string ⟨(Lib.itoa y).toArray⟩] 9)) fun e w' => e = .returned (.string ⟨(name_Print.text m d y).toArray⟩) ∧ Below (V.alloc (Obj.cells #[.string ⟨(Lib.itoa d).toArray⟩, .string m, .string ⟨(Lib.itoa y).toArray⟩] 9)).heap.size (V.alloc (Obj.cells #[.string ⟨(Lib.itoa d).toArray⟩, .string m, .string ⟨(Lib.itoa y).toArray⟩] 9)) w') := ⟨fun V => np_join V ⟨(Lib.itoa d).toArray⟩ m ⟨(Lib.itoa y).toArray⟩ hl⟩
      have c0 : W1.cell? ⟨w.heap.size, 0, none⟩ = some (.int .i64 y) := (blk_cell HK1.out 0).trans rfl
      have c1 : W1.cell? ⟨w.heap.size, 1, none⟩ = some (.int .i64 n) := (blk_cell HK1.out 1).trans rfl
      have c2 : W1.cell? ⟨w.heap.size, 2, none⟩ = some (.bool l) := (blk_cell HK1.out 2).trans rfl
      clear H2 H3 hm hl y0 y1 d0 d1
      go_wp2_with fail
      refine (HM.out _ HN1.out HT1.out).mono ?_
      rintro e W2 ⟨rfl, hb2⟩
      have HB2 := Aside0.mk (HB1.out.trans (hb2.mono HB1.out.size))
      have HK2 := Aside0.mk (blk_below HK1.out hb2)
      have HS2 := Aside0.mk (HS1.out.below hb2)
      have HLT := Aside0.mk (blk_lt HK2.out)
      clear hb2 HB1 HK1 HN1 HT1 HS1 HM c0 c1 c2
      have c0 : W2.cell? ⟨w.heap.size, 0, none⟩ = some (.int .i64 y) := (blk_cell HK2.out 0).trans rfl
      have c3 : W2.cell? ⟨w.heap.size, 3, none⟩ = some (.int .i64 d) := (blk_cell HK2.out 3).trans rfl
      go_upto_region 5 with fail
      go_cut [2, 3] (fun v2 v3 wc => v2 = .string ⟨(name_Print.text m d y).toArray⟩ ∧ v3 = .int .i64 em ∧ Aside0 (Below W2.heap.size W2 wc))
      case first =>
        go_region_held3 (fun V => Below W2.heap.size W2 V ∧ V.cell? ⟨w.heap.size, 0, none⟩ = some (.int .i64 y) ∧ V.cell? ⟨w.heap.size, 3, none⟩ = some (.int .i64 d)) (first | (have hz_ : Below W2.heap.size W2 W2.drew := ((Drawn0.refl W2).step 1).below; exact ⟨hz_, np_cell HLT.out c0 hz_, np_cell HLT.out c3 hz_⟩) | (have hz_ := np_two (And.left (by assumption)) hb; exact ⟨hz_, np_cell HLT.out c0 hz_, np_cell HLT.out c3 hz_⟩) | (have hz_ := below_alloc (And.left (by assumption)) (Obj.cells #[.string ⟨(Lib.itoa d).toArray⟩, .string m, .string ⟨(Lib.itoa y).toArray⟩] 9); exact ⟨hz_, np_cell HLT.out c0 hz_, np_cell HLT.out c3 hz_⟩)) (first | (go_at_call 52; refine (HI1.out _ (HS2.out.below (And.left (by assumption)))).mono ?_; rintro e w' ⟨rfl, hb⟩) | (go_at_call 52; refine (HI2.out _ (HS2.out.below (And.left (by assumption)))).mono ?_; rintro e w' ⟨rfl, hb⟩) | (go_at_call 51; refine (HJ.out _).mono ?_; rintro e w' ⟨rfl, hb⟩))
        have HDD := Aside0.mk (And.left (‹Below W2.heap.size W2 _ ∧ _›))
        go_wp2_with fail
        go_meet
        case rel => exact ⟨rfl, rfl, HDD⟩
      case rest =>
        obtain ⟨rfl, rfl, HB5⟩ := hcut
        go_wp2_with fail
        go_ret2
        exact ⟨rfl, HB2.out.trans (HB5.out.mono HB2.out.size)⟩
    · rw [if_neg hr] at H3
      cases H3
  · rw [if_neg he] at H2
    have h' := Option.some.inj H2
    simp only [Prod.mk.injEq] at h'
    obtain ⟨rfl, rfl⟩ := h'
    have he2 : (ec != 0) = true := by simpa using he
    clear H2 he
    go_wp2_with fail
    go_ret2
    exact ⟨rfl, HB1.out⟩

def name_Read.go (nm : ByteArray) (n y : Option Int) (c : Int) (l ok : Bool) : Option (Int × Int × Bool × Int × Int) :=
  match n, y with
  | some n, some y => if ok = true then (heb_Check.f 30 y c l n).bind fun e => if e = 0 then (if nm = Cal.adar2 then (name_leap.f y).bind fun b => if b = true then some (y, c, l, n, 0) else some (0, 0, false, 0, 2) else some (y, c, l, n, 0)) else some (0, 0, false, 0, 2) else some (0, 0, false, 0, 5)
  | _, _ => some (0, 0, false, 0, 5)
def name_Read.at (s a r : ByteArray) (ok : Bool) (i : Int) : Option (Int × Int × Bool × Int × Int) :=
  if s.size ≤ 1000 ∧ a.size ≤ 1000 ∧ r.size ≤ 1000 ∧ i < r.size then (if ok = true ∧ 0 ≤ i then name_Read.go (r.extract 0 i.toNat) (numOf a 2) (numOf (r.extract (i + 1).toNat r.size) 4) (codeIn (codesTo 12) (r.extract 0 i.toNat)).1 (codeIn (codesTo 12) (r.extract 0 i.toNat)).2.1 (codeIn (codesTo 12) (r.extract 0 i.toNat)).2.2 else some (0, 0, false, 0, 5)) else none
def name_Read.f (s : ByteArray) : Option (Int × Int × Bool × Int × Int) := name_Read.at s ⟨(Lib.cut s.data.toList [32]).1.toArray⟩ ⟨(Lib.cut s.data.toList [32]).2.1.toArray⟩ (Lib.cut s.data.toList [32]).2.2 (Lib.lastIndexByte ⟨(Lib.cut s.data.toList [32]).2.1.toArray⟩ 32)
theorem numIs_true {s : ByteArray} {m n : Int} (h : numIs s m n true) : numOf s m = some n := by
  unfold numIs at h
  cases hx : numOf s m with
  | none => rw [hx] at h; cases h
  | some v => rw [hx] at h; rw [h.1]
theorem numIs_false {s : ByteArray} {m n : Int} (h : numIs s m n false) : numOf s m = none := by
  unfold numIs at h
  cases hx : numOf s m with
  | none => rfl
  | some v => rw [hx] at h; cases h.2
theorem cut_of (s : ByteArray) (hs : s.size ≤ 100000) (w : World) (HG : GlobN w) : Calls Tryz.prog 54 #[.string s, .string ⟨#[32]⟩] w fun e w' => e = .returned (.tuple #[.string ⟨(Lib.cut s.data.toList [32]).1.toArray⟩, .string ⟨(Lib.cut s.data.toList [32]).2.1.toArray⟩, .bool (Lib.cut s.data.toList [32]).2.2]) ∧ Drawn0 w w' := by
  obtain ⟨m, hm⟩ := HG.maxLen
  refine (Tryz.strings_Cut s ⟨#[32]⟩ m w (by omega) hm).mono ?_
  rintro e w' ⟨rfl, n, rfl⟩
  exact ⟨rfl, ⟨n, rfl⟩⟩
theorem zero_date (w : World) : Aside0 ((w.alloc (Obj.cells #[.int .i64 0, .int .i64 0, .bool false, .int .i64 0] 34)).heap[w.heap.size]? = some (.cells #[.int .i64 0, .int .i64 0, .bool false, .int .i64 0] 34 (0, 0))) := ⟨blk_new w _⟩
set_option maxHeartbeats 8000000 in
set_option maxRecDepth 100000 in
theorem name_read_at (s a r : ByteArray) (ok : Bool) (i : Int) (y c : Int) (l : Bool) (n e2 : Int) (hca : (Lib.cut s.data.toList [32]) = (a.data.toList, r.data.toList, ok)) (hi : Lib.lastIndexByte r 32 = i) (h : name_Read.at s a r ok i = some (y, c, l, n, e2)) (w : World) (HGN : GlobN w) (HGS : GlobS w) (HGT : GlobT w) :
    Calls Tryz.prog 20 #[.string s] w fun e w' => e = .returned (.tuple #[.agg #[.int .i64 y, .int .i64 c, .bool l, .int .i64 n], .int .i64 e2]) ∧ Below w.heap.size w w' := by
  unfold name_Read.at at h
  by_cases hsz : s.size ≤ 1000 ∧ a.size ≤ 1000 ∧ r.size ≤ 1000 ∧ i < r.size
  · rw [if_pos hsz] at h
    obtain ⟨hs, ha, hr, hir⟩ := hsz
    have ea : (⟨a.data.toList.toArray⟩ : ByteArray) = a := by cases a; simp
    have er : (⟨r.data.toList.toArray⟩ : ByteArray) = r := by cases r; simp
    have HC : Aside0 (∀ W, GlobN W → Calls Tryz.prog 54 #[.string s, .string ⟨#[32]⟩] W fun e w' => e = .returned (.tuple #[.string a, .string r, .bool ok]) ∧ Drawn0 W w') := ⟨fun W hW => (cut_of s (by omega) W hW).mono fun e w' ⟨h1, h2⟩ => ⟨by rw [h1, hca, ea, er], h2⟩⟩
    have HL : Aside0 (∀ W, Calls Tryz.prog 55 #[.string r, .int .u8 32] W fun e w' => e = .returned (.int .i64 i) ∧ W = w') := ⟨fun W => (Tryz.strings_LastIndexByte r 32 (by omega) W).mono fun e w' ⟨h1, h2⟩ => ⟨by rw [h1, hi], h2.symm⟩⟩
    have HH := Aside0.mk h
    have HB0 := Aside0.mk (below_alloc (Below.refl w.heap.size w) (Obj.cells #[.int .i64 0, .int .i64 0, .bool false, .int .i64 0] 34))
    have HZ0 := zero_date w
    have HN0 := Aside0.mk (HGN.below HB0.out)
    have HT0 := Aside0.mk (HGT.below HB0.out)
    have HS0 := Aside0.mk (HGS.below HB0.out)
    have HR := Aside0.mk hr
    have HA := Aside0.mk ha
    clear h ea er hca hi HGN HGS HGT hs ha
    go_enter Tryz.func20, Tryz.ntmps20
    go_wp2_with fail
    generalize w.alloc (Obj.cells #[.int .i64 0, .int .i64 0, .bool false, .int .i64 0] 34) = W at HB0 HZ0 HN0 HT0 HS0 ⊢
    refine (HC.out W HN0.out).mono ?_
    rintro e W1 ⟨rfl, hd⟩
    have HB1 := Aside0.mk (HB0.out.trans (hd.below.mono HB0.out.size))
    have HZ1 := Aside0.mk (blk_below HZ0.out hd.below)
    have HN1 := Aside0.mk (HN0.out.drawn hd)
    have HT1 := Aside0.mk (HT0.out.drawn hd)
    have HS1 := Aside0.mk (HS0.out.drawn hd)
    clear hd HC HB0 HZ0 HN0 HT0 HS0
    go_wp2_with fail
    refine (HL.out _).mono ?_
    rintro e W2 ⟨rfl, rfl⟩
    clear HL
    by_cases hok : ok = true ∧ 0 ≤ i
    · obtain ⟨rfl, i0⟩ := hok
      have HG := Aside0.mk (show name_Read.go (r.extract 0 i.toNat) (numOf a 2) (numOf (r.extract (i + 1).toNat r.size) 4) (codeIn (codesTo 12) (r.extract 0 i.toNat)).1 (codeIn (codesTo 12) (r.extract 0 i.toNat)).2.1 (codeIn (codesTo 12) (r.extract 0 i.toNat)).2.2 = some (y, c, l, n, e2) by have := HH.out; rw [if_pos ⟨rfl, i0⟩] at this; exact this)
      clear HH
      have bi : decide (i < 0) = false := decide_eq_false (by omega)
      have hw : wrap64 (i + 1) = i + 1 := by unfold wrap64; omega
      have i1 : i ≤ (r.size : Int) := by omega
      have i2 : i + 1 ≤ (r.size : Int) := by omega
      have i3 : 0 ≤ i + 1 := by omega
      go_wp2_with fail
      refine (name_number a (by have := HA.out; omega) 2 W1 HS1.out).mono ?_
      rintro e W2 ⟨n1, b1, rfl, hn1, hb2⟩
      have HB2 := Aside0.mk (HB1.out.trans (hb2.mono HB1.out.size))
      have HZ2 := Aside0.mk (blk_below HZ1.out hb2)
      have HN2 := Aside0.mk (HN1.out.below hb2)
      have HT2 := Aside0.mk (HT1.out.below hb2)
      have HS2 := Aside0.mk (HS1.out.below hb2)
      have HP1 := Aside0.mk hn1
      clear hb2 hn1 HB1 HZ1 HN1 HT1 HS1
      go_wp2_with fail
      have hyr : (r.extract (i + 1).toNat r.size).size ≤ 100000 := by rw [ByteArray.size_extract]; have := HR.out; omega
      refine (name_number _ hyr 4 W2 HS2.out).mono ?_
      rintro e W3 ⟨n2, b2, rfl, hn2, hb3⟩
      have HB3 := Aside0.mk (HB2.out.trans (hb3.mono HB2.out.size))
      have HZ3 := Aside0.mk (blk_below HZ2.out hb3)
      have HN3 := Aside0.mk (HN2.out.below hb3)
      have HT3 := Aside0.mk (HT2.out.below hb3)
      have HP2 := Aside0.mk hn2
      clear hb3 hn2 hyr HB2 HZ2 HN2 HT2 HS2
      go_wp2_with fail
      refine (name_codes W3 HN3.out).mono ?_
      rintro e W4 ⟨rfl, hm4, hb4⟩
      have HB4 := Aside0.mk (HB3.out.trans (hb4.mono HB3.out.size))
      have HZ4 := Aside0.mk (blk_below HZ3.out hb4)
      have HT4 := Aside0.mk (HT3.out.below hb4)
      have hlk := hm4.lookup (r.extract 0 i.toNat)
      obtain ⟨⟨c1, l1, ok1⟩, hci⟩ : ∃ x, codeIn (codesTo 12) (r.extract 0 i.toNat) = x := ⟨_, rfl⟩
      rw [hci] at hlk
      simp only at hlk
      have HG2 := Aside0.mk (show name_Read.go (r.extract 0 i.toNat) (numOf a 2) (numOf (r.extract (i + 1).toNat r.size) 4) c1 l1 ok1 = some (y, c, l, n, e2) by have := HG.out; rw [hci] at this; exact this)
      clear hb4 hci HB3 HZ3 HN3 HT3 HG
      go_upto_region 9 with fail
      have hal := below_alloc (Below.refl W4.heap.size W4) (Obj.cells #[.int .i64 c1, .bool l1] 32)
      have HB5 := Aside0.mk (HB4.out.trans (hal.mono HB4.out.size))
      have HZ5 := Aside0.mk (blk_below HZ4.out hal)
      have HK5 := Aside0.mk (blk_new W4 (.cells #[.int .i64 c1, .bool l1] 32))
      have HT5 := Aside0.mk (HT4.out.below hal)
      have HLT := Aside0.mk HB4.out.size
      clear hal hm4 hlk HB4 HZ4 HT4
      generalize W4.alloc (Obj.cells #[.int .i64 c1, .bool l1] 32) = W5 at HB5 HZ5 HK5 HT5 ⊢
      generalize W4.heap.size = g4 at HK5 HLT ⊢
      have z0 : W5.cell? ⟨w.heap.size, 0, none⟩ = some (.int .i64 0) := (blk_cell HZ5.out 0).trans rfl
      have z1 : W5.cell? ⟨w.heap.size, 1, none⟩ = some (.int .i64 0) := (blk_cell HZ5.out 1).trans rfl
      have z2 : W5.cell? ⟨w.heap.size, 2, none⟩ = some (.bool false) := (blk_cell HZ5.out 2).trans rfl
      have z3 : W5.cell? ⟨w.heap.size, 3, none⟩ = some (.int .i64 0) := (blk_cell HZ5.out 3).trans rfl
      have f0 := blk_frozen HZ5.out 0
      have f1 := blk_frozen HZ5.out 1
      have f2 := blk_frozen HZ5.out 2
      have f3 := blk_frozen HZ5.out 3
      by_cases hall : b1 = true ∧ b2 = true ∧ ok1 = true
      · obtain ⟨rfl, rfl, rfl⟩ := hall
        have HG3 := HG2.out
        rw [numIs_true HP1.out, numIs_true HP2.out] at HG3
        unfold name_Read.go at HG3
        simp only at HG3
        rw [if_pos trivial] at HG3
        obtain ⟨ec, hec, HG3⟩ := Option.bind_eq_some_iff.1 HG3
        have HCH : Aside0 (∀ V, GlobT V → Calls Tryz.prog 50 #[.agg #[.int .i64 n2, .int .i64 c1, .bool l1, .int .i64 n1]] V fun e w' => e = .returned (.int .i64 ec) ∧ Below V.heap.size V w') := ⟨fun V hV => heb_Check.calls 30 n2 c1 l1 n1 ec V hV hec⟩
        have k0 : W5.cell? ⟨g4, 0, none⟩ = some (.int .i64 c1) := (blk_cell HK5.out 0).trans rfl
        have k1 : W5.cell? ⟨g4, 1, none⟩ = some (.bool l1) := (blk_cell HK5.out 1).trans rfl
        have HGG := Aside0.mk HG3
        clear HG3 hec HG2 HP1 HP2
        clear z0 z1 z2 z3 f0 f1 f2 f3
        go_wp2_with fail
        have hal := below_alloc (Below.refl W5.heap.size W5) (Obj.cells #[.int .i64 n2, .int .i64 c1, .bool l1, .int .i64 n1] 34)
        have HD5 := blk_new W5 (.cells #[.int .i64 n2, .int .i64 c1, .bool l1, .int .i64 n1] 34)
        refine (HCH.out _ (HT5.out.below hal)).mono ?_
        rintro e W6 ⟨rfl, hb6⟩
        have HB6 := Aside0.mk (HB5.out.trans ((hal.trans (hb6.mono hal.size)).mono HB5.out.size))
        have HZ6 := Aside0.mk (blk_below (blk_below HZ5.out hal) hb6)
        have HD6 := Aside0.mk (blk_below HD5 hb6)
        clear hal HD5 hb6 k0 k1 HT5 HCH HB5 HZ5 HK5
        generalize W5.heap.size = g5 at HD6 ⊢
        have z0 : W6.cell? ⟨w.heap.size, 0, none⟩ = some (.int .i64 0) := (blk_cell HZ6.out 0).trans rfl
        have z1 : W6.cell? ⟨w.heap.size, 1, none⟩ = some (.int .i64 0) := (blk_cell HZ6.out 1).trans rfl
        have z2 : W6.cell? ⟨w.heap.size, 2, none⟩ = some (.bool false) := (blk_cell HZ6.out 2).trans rfl
        have z3 : W6.cell? ⟨w.heap.size, 3, none⟩ = some (.int .i64 0) := (blk_cell HZ6.out 3).trans rfl
        have f0 := blk_frozen HZ6.out 0
        have f1 := blk_frozen HZ6.out 1
        have f2 := blk_frozen HZ6.out 2
        have f3 := blk_frozen HZ6.out 3
        have d0 : W6.cell? ⟨g5, 0, none⟩ = some (.int .i64 n2) := (blk_cell HD6.out 0).trans rfl
        have d1 : W6.cell? ⟨g5, 1, none⟩ = some (.int .i64 c1) := (blk_cell HD6.out 1).trans rfl
        have d2 : W6.cell? ⟨g5, 2, none⟩ = some (.bool l1) := (blk_cell HD6.out 2).trans rfl
        have d3 : W6.cell? ⟨g5, 3, none⟩ = some (.int .i64 n1) := (blk_cell HD6.out 3).trans rfl
        generalize r.extract 0 i.toNat = nm at HGG ⊢
        have HG4 := HGG.out
        clear HGG
        by_cases he : ec = 0
        · subst he
          rw [if_pos rfl] at HG4
          by_cases hnm : nm = Cal.adar2
          · subst hnm
            rw [if_pos rfl] at HG4
            obtain ⟨b, hb, HG5⟩ := Option.bind_eq_some_iff.1 HG4
            have HLP : Aside0 (∀ V, Calls Tryz.prog 47 #[.int .i64 n2] V fun e w' => e = .returned (.bool b) ∧ Drawn0 V w') := ⟨fun V => name_leap.calls n2 b V hb⟩
            clear HG4 hb
            go_wp2_with fail
            · refine (HLP.out _).mono ?_
              rintro e W7 ⟨rfl, hd7⟩
              have HB7 := Aside0.mk (HB6.out.trans (hd7.below.mono HB6.out.size))
              have HZ7 := Aside0.mk (blk_below HZ6.out hd7.below)
              have HD7 := Aside0.mk (blk_below HD6.out hd7.below)
              clear hd7 z0 z1 z2 z3 f0 f1 f2 f3 d0 d1 d2 d3 HB6 HZ6 HD6
              have z0 : W7.cell? ⟨w.heap.size, 0, none⟩ = some (.int .i64 0) := (blk_cell HZ7.out 0).trans rfl
              have z1 : W7.cell? ⟨w.heap.size, 1, none⟩ = some (.int .i64 0) := (blk_cell HZ7.out 1).trans rfl
              have z2 : W7.cell? ⟨w.heap.size, 2, none⟩ = some (.bool false) := (blk_cell HZ7.out 2).trans rfl
              have z3 : W7.cell? ⟨w.heap.size, 3, none⟩ = some (.int .i64 0) := (blk_cell HZ7.out 3).trans rfl
              have f0 := blk_frozen HZ7.out 0
              have f1 := blk_frozen HZ7.out 1
              have f2 := blk_frozen HZ7.out 2
              have f3 := blk_frozen HZ7.out 3
              have d0 : W7.cell? ⟨g5, 0, none⟩ = some (.int .i64 n2) := (blk_cell HD7.out 0).trans rfl
              have d1 : W7.cell? ⟨g5, 1, none⟩ = some (.int .i64 c1) := (blk_cell HD7.out 1).trans rfl
              have d2 : W7.cell? ⟨g5, 2, none⟩ = some (.bool l1) := (blk_cell HD7.out 2).trans rfl
              have d3 : W7.cell? ⟨g5, 3, none⟩ = some (.int .i64 n1) := (blk_cell HD7.out 3).trans rfl
              cases b with
              | true =>
                rw [if_pos rfl] at HG5
                have h' := Option.some.inj HG5
                simp only [Prod.mk.injEq] at h'
                obtain ⟨rfl, rfl, rfl, rfl, rfl⟩ := h'
                clear HG5
                go_wp2_with fail
                refine bodyPost_ret (results_ct rfl _ _ w.heap.size 34 #[.int .i64 n2, .int .i64 c1, .bool l1, .int .i64 n1] (0, 0) _ rfl (blk_put (blk_put (blk_put (blk_put HZ7.out 0 _ rfl) 1 _ rfl) 2 _ rfl) 3 _ rfl) Tryz.underlying34 rfl (by kernel_rfl)) rfl ?_
                exact ⟨rfl, below_set (below_set (below_set (below_set HB7.out (Nat.le_refl _)) (Nat.le_refl _)) (Nat.le_refl _)) (Nat.le_refl _)⟩
              | false =>
                rw [if_neg (by decide)] at HG5
                have h' := Option.some.inj HG5
                simp only [Prod.mk.injEq] at h'
                obtain ⟨rfl, rfl, rfl, rfl, rfl⟩ := h'
                clear HG5 d0 d1 d2 d3
                go_wp2_with fail
                refine bodyPost_ret (results_ct rfl _ _ w.heap.size 34 #[.int .i64 0, .int .i64 0, .bool false, .int .i64 0] (0, 0) _ rfl (blk_put (blk_put (blk_put (blk_put HZ7.out 0 _ rfl) 1 _ rfl) 2 _ rfl) 3 _ rfl) Tryz.underlying34 rfl (by kernel_rfl)) rfl ?_
                exact ⟨rfl, below_set (below_set (below_set (below_set HB7.out (Nat.le_refl _)) (Nat.le_refl _)) (Nat.le_refl _)) (Nat.le_refl _)⟩
            · exact absurd (by decide +kernel) (‹¬Cal.adar2.toList = [65, 100, 97, 114, 32, 73, 73]›)
          · rw [if_neg hnm] at HG4
            have h' := Option.some.inj HG4
            simp only [Prod.mk.injEq] at h'
            obtain ⟨rfl, rfl, rfl, rfl, rfl⟩ := h'
            have HNM := Aside0.mk hnm
            clear HG4 hnm
            go_wp2_with fail
            · exfalso
              refine HNM.out (ByteArray.ext ?_)
              have h2 : nm.toList = Cal.adar2.toList := (‹nm.toList = [65, 100, 97, 114, 32, 73, 73]›).trans (by decide +kernel)
              rw [Lib.toList_data, Lib.toList_data] at h2
              exact Array.toList_inj.1 h2
            · refine bodyPost_ret (results_ct rfl _ _ w.heap.size 34 #[.int .i64 n2, .int .i64 c1, .bool l1, .int .i64 n1] (0, 0) _ rfl (blk_put (blk_put (blk_put (blk_put HZ6.out 0 _ rfl) 1 _ rfl) 2 _ rfl) 3 _ rfl) Tryz.underlying34 rfl (by kernel_rfl)) rfl ?_
              exact ⟨rfl, below_set (below_set (below_set (below_set HB6.out (Nat.le_refl _)) (Nat.le_refl _)) (Nat.le_refl _)) (Nat.le_refl _)⟩
        · rw [if_neg he] at HG4
          have h' := Option.some.inj HG4
          simp only [Prod.mk.injEq] at h'
          obtain ⟨rfl, rfl, rfl, rfl, rfl⟩ := h'
          have he2 : (ec != 0) = true := by simpa using he
          clear HG4 he d0 d1 d2 d3
          go_wp2_with fail
          refine bodyPost_ret (results_ct rfl _ _ w.heap.size 34 #[.int .i64 0, .int .i64 0, .bool false, .int .i64 0] (0, 0) _ rfl (blk_put (blk_put (blk_put (blk_put HZ6.out 0 _ rfl) 1 _ rfl) 2 _ rfl) 3 _ rfl) Tryz.underlying34 rfl (by kernel_rfl)) rfl ?_
          exact ⟨rfl, below_set (below_set (below_set (below_set HB6.out (Nat.le_refl _)) (Nat.le_refl _)) (Nat.le_refl _)) (Nat.le_refl _)⟩
      · have HE := Aside0.mk (show some ((0 : Int), (0 : Int), false, (0 : Int), (5 : Int)) = some (y, c, l, n, e2) by
          rw [← HG2.out]
          rcases b1 with _ | _
          · rw [numIs_false HP1.out]; rfl
          · rcases b2 with _ | _
            · rw [numIs_false HP2.out, numIs_true HP1.out]; rfl
            · rcases ok1 with _ | _
              · rw [numIs_true HP2.out, numIs_true HP1.out]; rfl
              · exact absurd ⟨rfl, rfl, rfl⟩ hall)
        have h' := Option.some.inj HE.out
        simp only [Prod.mk.injEq] at h'
        obtain ⟨rfl, rfl, rfl, rfl, rfl⟩ := h'
        rcases b1 with _ | _
        · go_wp2_with fail
          refine bodyPost_ret (results_ct rfl _ _ w.heap.size 34 #[.int .i64 0, .int .i64 0, .bool false, .int .i64 0] (0, 0) _ rfl (blk_put (blk_put (blk_put (blk_put HZ5.out 0 _ rfl) 1 _ rfl) 2 _ rfl) 3 _ rfl) Tryz.underlying34 rfl (by kernel_rfl)) rfl ?_
          exact ⟨rfl, below_set (below_set (below_set (below_set HB5.out (Nat.le_refl _)) (Nat.le_refl _)) (Nat.le_refl _)) (Nat.le_refl _)⟩
        · rcases b2 with _ | _
          · go_wp2_with fail
            refine bodyPost_ret (results_ct rfl _ _ w.heap.size 34 #[.int .i64 0, .int .i64 0, .bool false, .int .i64 0] (0, 0) _ rfl (blk_put (blk_put (blk_put (blk_put HZ5.out 0 _ rfl) 1 _ rfl) 2 _ rfl) 3 _ rfl) Tryz.underlying34 rfl (by kernel_rfl)) rfl ?_
            exact ⟨rfl, below_set (below_set (below_set (below_set HB5.out (Nat.le_refl _)) (Nat.le_refl _)) (Nat.le_refl _)) (Nat.le_refl _)⟩
          · rcases ok1 with _ | _
            · go_wp2_with fail
              refine bodyPost_ret (results_ct rfl _ _ w.heap.size 34 #[.int .i64 0, .int .i64 0, .bool false, .int .i64 0] (0, 0) _ rfl (blk_put (blk_put (blk_put (blk_put HZ5.out 0 _ rfl) 1 _ rfl) 2 _ rfl) 3 _ rfl) Tryz.underlying34 rfl (by kernel_rfl)) rfl ?_
              exact ⟨rfl, below_set (below_set (below_set (below_set HB5.out (Nat.le_refl _)) (Nat.le_refl _)) (Nat.le_refl _)) (Nat.le_refl _)⟩
            · exact absurd ⟨rfl, rfl, rfl⟩ hall
    · have HE := Aside0.mk (show some ((0 : Int), (0 : Int), false, (0 : Int), (5 : Int)) = some (y, c, l, n, e2) by have := HH.out; rw [if_neg hok] at this; exact this)
      have h' := Option.some.inj HE.out
      simp only [Prod.mk.injEq] at h'
      obtain ⟨rfl, rfl, rfl, rfl, rfl⟩ := h'
      have z0 : W1.cell? ⟨w.heap.size, 0, none⟩ = some (.int .i64 0) := (blk_cell HZ1.out 0).trans rfl
      have z1 : W1.cell? ⟨w.heap.size, 1, none⟩ = some (.int .i64 0) := (blk_cell HZ1.out 1).trans rfl
      have z2 : W1.cell? ⟨w.heap.size, 2, none⟩ = some (.bool false) := (blk_cell HZ1.out 2).trans rfl
      have z3 : W1.cell? ⟨w.heap.size, 3, none⟩ = some (.int .i64 0) := (blk_cell HZ1.out 3).trans rfl
      have f0 := blk_frozen HZ1.out 0
      have f1 := blk_frozen HZ1.out 1
      have f2 := blk_frozen HZ1.out 2
      have f3 := blk_frozen HZ1.out 3
      rcases ok with _ | _
      · go_wp2_with fail
        refine bodyPost_ret (results_ct rfl _ _ w.heap.size 34 #[.int .i64 0, .int .i64 0, .bool false, .int .i64 0] (0, 0) _ rfl (blk_put (blk_put (blk_put (blk_put HZ1.out 0 _ rfl) 1 _ rfl) 2 _ rfl) 3 _ rfl) Tryz.underlying34 rfl (by kernel_rfl)) rfl ?_
        exact ⟨rfl, below_set (below_set (below_set (below_set HB1.out (Nat.le_refl _)) (Nat.le_refl _)) (Nat.le_refl _)) (Nat.le_refl _)⟩
      · have bi : decide (i < 0) = true := decide_eq_true (by
          rcases Int.lt_or_le i 0 with hlt | hge
          · exact hlt
          · exact absurd ⟨rfl, hge⟩ hok)
        go_wp2_with fail
        refine bodyPost_ret (results_ct rfl _ _ w.heap.size 34 #[.int .i64 0, .int .i64 0, .bool false, .int .i64 0] (0, 0) _ rfl (blk_put (blk_put (blk_put (blk_put HZ1.out 0 _ rfl) 1 _ rfl) 2 _ rfl) 3 _ rfl) Tryz.underlying34 rfl (by kernel_rfl)) rfl ?_
        exact ⟨rfl, below_set (below_set (below_set (below_set HB1.out (Nat.le_refl _)) (Nat.le_refl _)) (Nat.le_refl _)) (Nat.le_refl _)⟩
  · rw [if_neg hsz] at h
    cases h
theorem name_Read.calls (s : ByteArray) (r1 r2 : Int) (r3 : Bool) (r4 r5 : Int) (w : World) (HGN : GlobN w) (HGS : GlobS w) (HGT : GlobT w) (h : name_Read.f s = some (r1, r2, r3, r4, r5)) :
    Calls Tryz.prog 20 #[.string s] w fun e w' => e = .returned (.tuple #[.agg #[.int .i64 r1, .int .i64 r2, .bool r3, .int .i64 r4], .int .i64 r5]) ∧ Below w.heap.size w w' :=
  name_read_at s _ _ _ _ r1 r2 r3 r4 r5 rfl rfl h w HGN HGS HGT

def almanackerlaw14_awake.f  : Option (Bool) := (name_Read.f (⟨#[51, 48, 32, 65, 100, 97, 114, 32, 73, 32, 53, 55, 56, 52]⟩ : ByteArray)).bind fun bt197 => ((name_Print.f bt197.1 bt197.2.1 bt197.2.2.1 bt197.2.2.2.1).bind fun bt203 => ((name_Read.f (⟨#[51, 48, 32, 65, 100, 97, 114, 32, 73, 32, 53, 55, 56, 53]⟩ : ByteArray)).bind fun bt205 => (if bt197.2.2.2.2 = 0 then (if (bt197.1 == 5784 && ((bt197.2.1 == 5 && (bt197.2.2.1)) && (bt197.2.2.2.1 == 30))) = true then (if bt203.2 = 0 then (if bt203.1.toList = ([51, 48, 32, 65, 100, 97, 114, 32, 73, 32, 53, 55, 56, 52] : List UInt8) then (some (bt205.2.2.2.2 == 2)) else (some false)) else (some false)) else (some false)) else (some false))))
set_option maxHeartbeats 8000000 in
set_option maxRecDepth 100000 in
theorem almanackerlaw14_awake.calls  (r : Bool) (w : World) (HGN : GlobN w) (HGS : GlobS w) (HGT : GlobT w) (h : almanackerlaw14_awake.f  = some r) :
  Calls Tryz.prog 15 #[] w fun e w' => e = .returned (.bool r) ∧ Below w.heap.size w w' := by
 have hu34 := Tryz.underlying34
 have hu32 := Tryz.underlying32
 have HB := zz00 (Below.refl w.heap.size w)
 have H : ((name_Read.f (⟨#[51,48,32,65,100,97,114,32,73,32,53,55,56,52]⟩ : ByteArray)).bind fun bt197=>((name_Print.f bt197.1 bt197.2.1 bt197.2.2.1 bt197.2.2.2.1).bind fun bt203=>((name_Read.f (⟨#[51,48,32,65,100,97,114,32,73,32,53,55,56,53]⟩ : ByteArray)).bind fun bt205=>(if bt197.2.2.2.2 = 0 then (if (bt197.1 == 5784 && ((bt197.2.1 == 5 && (bt197.2.2.1)) && (bt197.2.2.2.1 == 30))) = true then (if bt203.2 = 0 then (if bt203.1.toList = ([51,48,32,65,100,97,114,32,73,32,53,55,56,52] : List UInt8) then (some (bt205.2.2.2.2 == 2)) else (some false)) else (some false)) else (some false)) else (some false))))) = some r:=h
 clear h
 replace H := zz14.mp H
 obtain ⟨⟨t197, t198, t199, t200, t201⟩, A10, H⟩ := H
 replace H : ((name_Print.f t197 t198 t199 t200).bind fun bt203=>((name_Read.f (⟨#[51,48,32,65,100,97,114,32,73,32,53,55,56,53]⟩ : ByteArray)).bind fun bt205=>(if t201 = 0 then (if (t197 == 5784 && ((t198 == 5 && (t199)) && (t200 == 30))) = true then (if bt203.2 = 0 then (if bt203.1.toList = ([51,48,32,65,100,97,114,32,73,32,53,55,56,52] : List UInt8) then (some (bt205.2.2.2.2 == 2)) else (some false)) else (some false)) else (some false)) else (some false)))) = some r:=H
 have A1 := zz00 A10
 clear A10
 replace H := zz14.mp H
 obtain ⟨⟨t203, t204⟩, A20, H⟩ := H
 replace H : ((name_Read.f (⟨#[51,48,32,65,100,97,114,32,73,32,53,55,56,53]⟩ : ByteArray)).bind fun bt205=>(if t201 = 0 then (if (t197 == 5784 && ((t198 == 5 && (t199)) && (t200 == 30))) = true then (if t204 = 0 then (if t203.toList = ([51,48,32,65,100,97,114,32,73,32,53,55,56,52] : List UInt8) then (some (bt205.2.2.2.2 == 2)) else (some false)) else (some false)) else (some false)) else (some false))) = some r:=H
 have A2 := zz00 A20
 clear A20
 replace H := zz14.mp H
 obtain ⟨⟨t205, t206, t207, t208, t209⟩, A30, H⟩ := H
 replace H : (if t201 = 0 then (if (t197 == 5784 && ((t198 == 5 && (t199)) && (t200 == 30))) = true then (if t204 = 0 then (if t203.toList = ([51,48,32,65,100,97,114,32,73,32,53,55,56,52] : List UInt8) then (some (t209 == 2)) else (some false)) else (some false)) else (some false)) else (some false)) = some r:=H
 have A3 := zz00 A30
 clear A30
 by_cases c4 : t201 = 0
 ·
  rw [if_pos c4] at H
  have c4b0 : (t201 == 0) = true := zz29.mpr c4
  have c4b1 : (t201 != 0) = false := zz26.mpr c4
  clear c4
  by_cases c5 : (t197 == 5784 && ((t198 == 5 && (t199)) && (t200 == 30))) = true
  ·
   rw [if_pos c5] at H
   have c5b0 : (t197 == 5784 && ((t198 == 5 && (t199)) && (t200 == 30))) = true := c5
   (try (have c5b1 : decide (t197 = 5784 && ((t198 == 5 && (t199)) && (t200 == 30))) = true := by simpa using c5))
   (try (have c5b2 : (t197 == 5784 && ((t198 == 5 && (t199)) && (t200 == 30))) = true := by simpa using c5))
   clear c5
   by_cases c6 : t204 = 0
   ·
    rw [if_pos c6] at H
    have c6b0 : (t204 == 0) = true := zz29.mpr c6
    have c6b1 : (t204 != 0) = false := zz26.mpr c6
    clear c6
    by_cases c7 : t203.toList = ([51, 48, 32, 65, 100, 97, 114, 32, 73, 32, 53, 55, 56, 52] : List UInt8)
    ·
     rw [if_pos c7] at H
     have c7b0 : (t203.toList == ([51, 48, 32, 65, 100, 97, 114, 32, 73, 32, 53, 55, 56, 52] : List UInt8)) = true := zz29.mpr c7
     have c7b1 : (t203.toList != ([51, 48, 32, 65, 100, 97, 114, 32, 73, 32, 53, 55, 56, 52] : List UInt8)) = false := zz26.mpr c7
     clear c7
     obtain rfl := Option.some.inj H
     go_enter Tryz.func15, Tryz.ntmps15
     go_wp2_with (first|((with_reducible refine zz23 (f:=20) rfl ?_);refine zz25 (some 8) rfl rfl Tryz.func20 (by kernel_rfl) rfl #[.string (⟨#[51,48,32,65,100,97,114,32,73,32,53,55,56,52]⟩ : ByteArray)] rfl (by (try simp only [List.map_toArray,List.map_cons,List.map_nil]);first|done|rfl|(simp only [List.length_drop,List.length_take];rfl)) ?_;(with_reducible refine (name_Read.calls (⟨#[51,48,32,65,100,97,114,32,73,32,53,55,56,52]⟩ : ByteArray) t197 t198 t199 t200 t201 _ ?side1 ?side2 ?side3 A1.out).mono ?_);(case side1=>exact GlobN.below HGN (by repeat (first|(with_reducible first|exact HB.out|apply zz03|apply zz01|apply zz02)|exact HB.out)));(case side2=>exact GlobS.below HGS (by repeat (first|(with_reducible first|exact HB.out|apply zz03|apply zz01|apply zz02)|exact HB.out)));(case side3=>exact GlobT.below HGT (by repeat (first|(with_reducible first|exact HB.out|apply zz03|apply zz01|apply zz02)|exact HB.out)));rintro e w8 ⟨rfl,hb⟩;refine ⟨_,rfl,?_⟩;have n0_:=zz00 (zz21 (by repeat (first|(with_reducible first|exact HB.out|apply zz03|apply zz01|apply zz02)|exact HB.out)) hb);clear HB;have HB:=n0_;clear n0_;(try clear hb);(try clear hb2);(try clear hk);(try clear hi))|((with_reducible refine zz24 (N:=1) rfl ?_);refine zz30 ?hg (N:=1) ?hd (cs:=#[.int .i64 0,.int .i64 0,.bool false,.int .i64 0]) (t:=34) ?hr ?_;(case hd=>rfl);(case hg=>rfl);(case hr=>first|(go_simp;done)|(go_simp;rfl));intro gb202 hg w9 hbox hb;have n0_:=zz00 (zz21 (by repeat (first|(with_reducible first|exact HB.out|apply zz03|apply zz01|apply zz02)|exact HB.out)) hb);have n1_:=zz00 (hbox);have n2_:=zz00 ((by rw [hg];exact (zz22 (by repeat (first|(with_reducible first|exact HB.out|apply zz03|apply zz01|apply zz02)|exact HB.out))) : w.heap.size ≤ gb202));have n3_:=zz00 ((by rw [hg];exact (zz22 (by repeat (first|(with_reducible first|exact HB.out|apply zz03|apply zz01|apply zz02)|exact HB.out))) : w.heap.size ≤ gb202));clear HB;have HB:=n0_;have BK202:=n1_;have GW202:=n2_;have GE202:=n3_;clear n0_ n1_ n2_ n3_;clear hb hbox hg;have hcz10_0 : w9.cell? ⟨gb202,0,none⟩ = some (.int .i64 0):=(zz18 BK202.out 0).trans rfl;have hcz10_1 : w9.cell? ⟨gb202,1,none⟩ = some (.int .i64 0):=(zz18 BK202.out 1).trans rfl;have hcz10_2 : w9.cell? ⟨gb202,2,none⟩ = some (.bool false):=(zz18 BK202.out 2).trans rfl;have hcz10_3 : w9.cell? ⟨gb202,3,none⟩ = some (.int .i64 0):=(zz18 BK202.out 3).trans rfl;have hfz10_0:=zz17 BK202.out 0;have hfz10_1:=zz17 BK202.out 1;have hfz10_2:=zz17 BK202.out 2;have hfz10_3:=zz17 BK202.out 3)|((with_reducible refine zz23 (f:=18) rfl ?_);refine zz25 (some 13) rfl rfl Tryz.func18 (by kernel_rfl) rfl #[.agg #[.int .i64 t197,.int .i64 t198,.bool t199,.int .i64 t200]] rfl (by (try simp only [List.map_toArray,List.map_cons,List.map_nil]);first|done|rfl|(simp only [List.length_drop,List.length_take];rfl)) ?_;(with_reducible refine (name_Print.calls t197 t198 t199 t200 t203 t204 _ ?side1 ?side2 ?side3 A2.out).mono ?_);(case side1=>exact GlobN.below HGN (by repeat (first|(with_reducible first|exact HB.out|apply zz03|apply zz01|apply zz02|refine zz10 ?_ GE202.out)|exact HB.out)));(case side2=>exact GlobS.below HGS (by repeat (first|(with_reducible first|exact HB.out|apply zz03|apply zz01|apply zz02|refine zz10 ?_ GE202.out)|exact HB.out)));(case side3=>exact GlobT.below HGT (by repeat (first|(with_reducible first|exact HB.out|apply zz03|apply zz01|apply zz02|refine zz10 ?_ GE202.out)|exact HB.out)));rintro e w11 ⟨rfl,hb⟩;refine ⟨_,rfl,?_⟩;have n0_:=zz00 (zz34 (g:=gb202) (o:=.cells #[.int .i64 t197,.int .i64 t198,.bool t199,.int .i64 t200] 34 (0,0)) (by (with_reducible repeat (first|refine zz07 ?_ _|refine zz09 ?_|refine zz08 ?_ _));refine zz35 (cs:=#[.int .i64 t197,.int .i64 t198,.bool t199,.int .i64 0]) ?_ 3 _ rfl;(with_reducible repeat (first|refine zz07 ?_ _|refine zz09 ?_|refine zz08 ?_ _));refine zz35 (cs:=#[.int .i64 t197,.int .i64 t198,.bool false,.int .i64 0]) ?_ 2 _ rfl;(with_reducible repeat (first|refine zz07 ?_ _|refine zz09 ?_|refine zz08 ?_ _));refine zz35 (cs:=#[.int .i64 t197,.int .i64 0,.bool false,.int .i64 0]) ?_ 1 _ rfl;(with_reducible repeat (first|refine zz07 ?_ _|refine zz09 ?_|refine zz08 ?_ _));refine zz35 (cs:=#[.int .i64 0,.int .i64 0,.bool false,.int .i64 0]) ?_ 0 _ rfl;(with_reducible repeat (first|refine zz07 ?_ _|refine zz09 ?_|refine zz08 ?_ _));exact BK202.out) hb);have n1_:=zz00 (zz21 (by repeat (first|(with_reducible first|exact HB.out|apply zz03|apply zz01|apply zz02|refine zz10 ?_ GE202.out)|exact HB.out)) hb);clear BK202;clear HB;have BK202:=n0_;have HB:=n1_;clear n0_ n1_;(try clear hb);(try clear hb2);(try clear hk);(try clear hi))|((with_reducible refine zz23 (f:=20) rfl ?_);refine zz25 (some 17) rfl rfl Tryz.func20 (by kernel_rfl) rfl #[.string (⟨#[51,48,32,65,100,97,114,32,73,32,53,55,56,53]⟩ : ByteArray)] rfl (by (try simp only [List.map_toArray,List.map_cons,List.map_nil]);first|done|rfl|(simp only [List.length_drop,List.length_take];rfl)) ?_;(with_reducible refine (name_Read.calls (⟨#[51,48,32,65,100,97,114,32,73,32,53,55,56,53]⟩ : ByteArray) t205 t206 t207 t208 t209 _ ?side1 ?side2 ?side3 A3.out).mono ?_);(case side1=>exact GlobN.below HGN (by repeat (first|(with_reducible first|exact HB.out|apply zz03|apply zz01|apply zz02|refine zz10 ?_ GE202.out)|exact HB.out)));(case side2=>exact GlobS.below HGS (by repeat (first|(with_reducible first|exact HB.out|apply zz03|apply zz01|apply zz02|refine zz10 ?_ GE202.out)|exact HB.out)));(case side3=>exact GlobT.below HGT (by repeat (first|(with_reducible first|exact HB.out|apply zz03|apply zz01|apply zz02|refine zz10 ?_ GE202.out)|exact HB.out)));rintro e w12 ⟨rfl,hb⟩;refine ⟨_,rfl,?_⟩;have n0_:=zz00 (zz34 (g:=gb202) (o:=.cells #[.int .i64 t197,.int .i64 t198,.bool t199,.int .i64 t200] 34 (0,0)) (by (with_reducible repeat (first|refine zz07 ?_ _|refine zz09 ?_|refine zz08 ?_ _));exact BK202.out) hb);have n1_:=zz00 (zz21 (by repeat (first|(with_reducible first|exact HB.out|apply zz03|apply zz01|apply zz02|refine zz10 ?_ GE202.out)|exact HB.out)) hb);clear BK202;clear HB;have BK202:=n0_;have HB:=n1_;clear n0_ n1_;(try clear hb);(try clear hb2);(try clear hk);(try clear hi))|((with_reducible refine zz24 (N:=5) rfl ?_);refine zz30 ?hg (N:=5) ?hd (cs:=#[.int .i64 0,.int .i64 0,.bool false,.int .i64 0]) (t:=34) ?hr ?_;(case hd=>rfl);(case hg=>rfl);(case hr=>first|(go_simp;done)|(go_simp;rfl));intro gb210 hg w13 hbox hb;have n0_:=zz00 (zz34 (g:=gb202) (o:=.cells #[.int .i64 t197,.int .i64 t198,.bool t199,.int .i64 t200] 34 (0,0)) (by (with_reducible repeat (first|refine zz07 ?_ _|refine zz09 ?_|refine zz08 ?_ _));exact BK202.out) hb);have n1_:=zz00 (zz21 (by repeat (first|(with_reducible first|exact HB.out|apply zz03|apply zz01|apply zz02|refine zz10 ?_ GE202.out)|exact HB.out)) hb);have n2_:=zz00 (hbox);have n3_:=zz00 ((by rw [hg];exact (zz22 (by repeat (first|(with_reducible first|exact HB.out|apply zz03|apply zz01|apply zz02|refine zz10 ?_ GE202.out)|exact HB.out))) : w.heap.size ≤ gb210));have n4_:=zz00 ((by rw [hg];exact (zz22 (by repeat (first|(with_reducible first|exact HB.out|apply zz03|apply zz01|apply zz02|refine zz10 ?_ GE202.out)|exact HB.out))) : w.heap.size ≤ gb210));have n5_:=zz00 ((by rw [hg];exact Nat.ne_of_lt (blk_lt (g:=gb202) (o:=.cells #[.int .i64 t197,.int .i64 t198,.bool t199,.int .i64 t200] 34 (0,0)) (by (with_reducible repeat (first|refine zz07 ?_ _|refine zz09 ?_|refine zz08 ?_ _));exact BK202.out)) : gb202 ≠ gb210));have n6_:=zz00 ((by rw [hg];exact Nat.ne_of_gt (blk_lt (g:=gb202) (o:=.cells #[.int .i64 t197,.int .i64 t198,.bool t199,.int .i64 t200] 34 (0,0)) (by (with_reducible repeat (first|refine zz07 ?_ _|refine zz09 ?_|refine zz08 ?_ _));exact BK202.out)) : gb210 ≠ gb202));clear BK202;clear HB;have BK202:=n0_;have HB:=n1_;have BK210:=n2_;have GW210:=n3_;have GE210:=n4_;have NB202_210:=n5_;have NB210_202:=n6_;clear n0_ n1_ n2_ n3_ n4_ n5_ n6_;clear hb hbox hg;have hnb14:=NB210_202.out;have hnc14:=NB202_210.out;have hcz15_0 : w13.cell? ⟨gb210,0,none⟩ = some (.int .i64 0):=(zz18 BK210.out 0).trans rfl;have hcz15_1 : w13.cell? ⟨gb210,1,none⟩ = some (.int .i64 0):=(zz18 BK210.out 1).trans rfl;have hcz15_2 : w13.cell? ⟨gb210,2,none⟩ = some (.bool false):=(zz18 BK210.out 2).trans rfl;have hcz15_3 : w13.cell? ⟨gb210,3,none⟩ = some (.int .i64 0):=(zz18 BK210.out 3).trans rfl;have hfz15_0:=zz17 BK210.out 0;have hfz15_1:=zz17 BK210.out 1;have hfz15_2:=zz17 BK210.out 2;have hfz15_3:=zz17 BK210.out 3;have hcz16_0 : w13.cell? ⟨gb202,0,none⟩ = some (.int .i64 t197):=(zz18 BK202.out 0).trans rfl;have hcz16_1 : w13.cell? ⟨gb202,1,none⟩ = some (.int .i64 t198):=(zz18 BK202.out 1).trans rfl;have hcz16_2 : w13.cell? ⟨gb202,2,none⟩ = some (.bool t199):=(zz18 BK202.out 2).trans rfl;have hcz16_3 : w13.cell? ⟨gb202,3,none⟩ = some (.int .i64 t200):=(zz18 BK202.out 3).trans rfl;have hfz16_0:=zz17 BK202.out 0;have hfz16_1:=zz17 BK202.out 1;have hfz16_2:=zz17 BK202.out 2;have hfz16_3:=zz17 BK202.out 3))
     go_ret
     exact ⟨by first|rfl|(simp [errW_none,errW_some] <;> rfl)|(simp [*,errW_none,errW_some] <;> rfl),by repeat (first|(with_reducible first|exact HB.out|apply zz03|apply zz01|apply zz02|refine zz10 ?_ GE202.out|refine zz10 ?_ GE210.out)|exact HB.out)⟩
    ·
     rw [if_neg c7] at H
     have c7b0 : (t203.toList == ([51, 48, 32, 65, 100, 97, 114, 32, 73, 32, 53, 55, 56, 52] : List UInt8)) = false := zz27.mpr c7
     have c7b1 : (t203.toList != ([51, 48, 32, 65, 100, 97, 114, 32, 73, 32, 53, 55, 56, 52] : List UInt8)) = true := zz28.mpr c7
     obtain rfl := Option.some.inj H
     go_enter Tryz.func15, Tryz.ntmps15
     go_wp2_with (first|((with_reducible refine zz23 (f:=20) rfl ?_);refine zz25 (some 8) rfl rfl Tryz.func20 (by kernel_rfl) rfl #[.string (⟨#[51,48,32,65,100,97,114,32,73,32,53,55,56,52]⟩ : ByteArray)] rfl (by (try simp only [List.map_toArray,List.map_cons,List.map_nil]);first|done|rfl|(simp only [List.length_drop,List.length_take];rfl)) ?_;(with_reducible refine (name_Read.calls (⟨#[51,48,32,65,100,97,114,32,73,32,53,55,56,52]⟩ : ByteArray) t197 t198 t199 t200 t201 _ ?side1 ?side2 ?side3 A1.out).mono ?_);(case side1=>exact GlobN.below HGN (by repeat (first|(with_reducible first|exact HB.out|apply zz03|apply zz01|apply zz02)|exact HB.out)));(case side2=>exact GlobS.below HGS (by repeat (first|(with_reducible first|exact HB.out|apply zz03|apply zz01|apply zz02)|exact HB.out)));(case side3=>exact GlobT.below HGT (by repeat (first|(with_reducible first|exact HB.out|apply zz03|apply zz01|apply zz02)|exact HB.out)));rintro e w17 ⟨rfl,hb⟩;refine ⟨_,rfl,?_⟩;have n0_:=zz00 (zz21 (by repeat (first|(with_reducible first|exact HB.out|apply zz03|apply zz01|apply zz02)|exact HB.out)) hb);clear HB;have HB:=n0_;clear n0_;(try clear hb);(try clear hb2);(try clear hk);(try clear hi))|((with_reducible refine zz24 (N:=1) rfl ?_);refine zz30 ?hg (N:=1) ?hd (cs:=#[.int .i64 0,.int .i64 0,.bool false,.int .i64 0]) (t:=34) ?hr ?_;(case hd=>rfl);(case hg=>rfl);(case hr=>first|(go_simp;done)|(go_simp;rfl));intro gb202 hg w18 hbox hb;have n0_:=zz00 (zz21 (by repeat (first|(with_reducible first|exact HB.out|apply zz03|apply zz01|apply zz02)|exact HB.out)) hb);have n1_:=zz00 (hbox);have n2_:=zz00 ((by rw [hg];exact (zz22 (by repeat (first|(with_reducible first|exact HB.out|apply zz03|apply zz01|apply zz02)|exact HB.out))) : w.heap.size ≤ gb202));have n3_:=zz00 ((by rw [hg];exact (zz22 (by repeat (first|(with_reducible first|exact HB.out|apply zz03|apply zz01|apply zz02)|exact HB.out))) : w.heap.size ≤ gb202));clear HB;have HB:=n0_;have BK202:=n1_;have GW202:=n2_;have GE202:=n3_;clear n0_ n1_ n2_ n3_;clear hb hbox hg;have hcz19_0 : w18.cell? ⟨gb202,0,none⟩ = some (.int .i64 0):=(zz18 BK202.out 0).trans rfl;have hcz19_1 : w18.cell? ⟨gb202,1,none⟩ = some (.int .i64 0):=(zz18 BK202.out 1).trans rfl;have hcz19_2 : w18.cell? ⟨gb202,2,none⟩ = some (.bool false):=(zz18 BK202.out 2).trans rfl;have hcz19_3 : w18.cell? ⟨gb202,3,none⟩ = some (.int .i64 0):=(zz18 BK202.out 3).trans rfl;have hfz19_0:=zz17 BK202.out 0;have hfz19_1:=zz17 BK202.out 1;have hfz19_2:=zz17 BK202.out 2;have hfz19_3:=zz17 BK202.out 3)|((with_reducible refine zz23 (f:=18) rfl ?_);refine zz25 (some 13) rfl rfl Tryz.func18 (by kernel_rfl) rfl #[.agg #[.int .i64 t197,.int .i64 t198,.bool t199,.int .i64 t200]] rfl (by (try simp only [List.map_toArray,List.map_cons,List.map_nil]);first|done|rfl|(simp only [List.length_drop,List.length_take];rfl)) ?_;(with_reducible refine (name_Print.calls t197 t198 t199 t200 t203 t204 _ ?side1 ?side2 ?side3 A2.out).mono ?_);(case side1=>exact GlobN.below HGN (by repeat (first|(with_reducible first|exact HB.out|apply zz03|apply zz01|apply zz02|refine zz10 ?_ GE202.out)|exact HB.out)));(case side2=>exact GlobS.below HGS (by repeat (first|(with_reducible first|exact HB.out|apply zz03|apply zz01|apply zz02|refine zz10 ?_ GE202.out)|exact HB.out)));(case side3=>exact GlobT.below HGT (by repeat (first|(with_reducible first|exact HB.out|apply zz03|apply zz01|apply zz02|refine zz10 ?_ GE202.out)|exact HB.out)));rintro e w20 ⟨rfl,hb⟩;refine ⟨_,rfl,?_⟩;have n0_:=zz00 (zz34 (g:=gb202) (o:=.cells #[.int .i64 t197,.int .i64 t198,.bool t199,.int .i64 t200] 34 (0,0)) (by (with_reducible repeat (first|refine zz07 ?_ _|refine zz09 ?_|refine zz08 ?_ _));refine zz35 (cs:=#[.int .i64 t197,.int .i64 t198,.bool t199,.int .i64 0]) ?_ 3 _ rfl;(with_reducible repeat (first|refine zz07 ?_ _|refine zz09 ?_|refine zz08 ?_ _));refine zz35 (cs:=#[.int .i64 t197,.int .i64 t198,.bool false,.int .i64 0]) ?_ 2 _ rfl;(with_reducible repeat (first|refine zz07 ?_ _|refine zz09 ?_|refine zz08 ?_ _));refine zz35 (cs:=#[.int .i64 t197,.int .i64 0,.bool false,.int .i64 0]) ?_ 1 _ rfl;(with_reducible repeat (first|refine zz07 ?_ _|refine zz09 ?_|refine zz08 ?_ _));refine zz35 (cs:=#[.int .i64 0,.int .i64 0,.bool false,.int .i64 0]) ?_ 0 _ rfl;(with_reducible repeat (first|refine zz07 ?_ _|refine zz09 ?_|refine zz08 ?_ _));exact BK202.out) hb);have n1_:=zz00 (zz21 (by repeat (first|(with_reducible first|exact HB.out|apply zz03|apply zz01|apply zz02|refine zz10 ?_ GE202.out)|exact HB.out)) hb);clear BK202;clear HB;have BK202:=n0_;have HB:=n1_;clear n0_ n1_;(try clear hb);(try clear hb2);(try clear hk);(try clear hi))|((with_reducible refine zz23 (f:=20) rfl ?_);refine zz25 (some 17) rfl rfl Tryz.func20 (by kernel_rfl) rfl #[.string (⟨#[51,48,32,65,100,97,114,32,73,32,53,55,56,53]⟩ : ByteArray)] rfl (by (try simp only [List.map_toArray,List.map_cons,List.map_nil]);first|done|rfl|(simp only [List.length_drop,List.length_take];rfl)) ?_;(with_reducible refine (name_Read.calls (⟨#[51,48,32,65,100,97,114,32,73,32,53,55,56,53]⟩ : ByteArray) t205 t206 t207 t208 t209 _ ?side1 ?side2 ?side3 A3.out).mono ?_);(case side1=>exact GlobN.below HGN (by repeat (first|(with_reducible first|exact HB.out|apply zz03|apply zz01|apply zz02|refine zz10 ?_ GE202.out)|exact HB.out)));(case side2=>exact GlobS.below HGS (by repeat (first|(with_reducible first|exact HB.out|apply zz03|apply zz01|apply zz02|refine zz10 ?_ GE202.out)|exact HB.out)));(case side3=>exact GlobT.below HGT (by repeat (first|(with_reducible first|exact HB.out|apply zz03|apply zz01|apply zz02|refine zz10 ?_ GE202.out)|exact HB.out)));rintro e w21 ⟨rfl,hb⟩;refine ⟨_,rfl,?_⟩;have n0_:=zz00 (zz34 (g:=gb202) (o:=.cells #[.int .i64 t197,.int .i64 t198,.bool t199,.int .i64 t200] 34 (0,0)) (by (with_reducible repeat (first|refine zz07 ?_ _|refine zz09 ?_|refine zz08 ?_ _));exact BK202.out) hb);have n1_:=zz00 (zz21 (by repeat (first|(with_reducible first|exact HB.out|apply zz03|apply zz01|apply zz02|refine zz10 ?_ GE202.out)|exact HB.out)) hb);clear BK202;clear HB;have BK202:=n0_;have HB:=n1_;clear n0_ n1_;(try clear hb);(try clear hb2);(try clear hk);(try clear hi))|((with_reducible refine zz24 (N:=5) rfl ?_);refine zz30 ?hg (N:=5) ?hd (cs:=#[.int .i64 0,.int .i64 0,.bool false,.int .i64 0]) (t:=34) ?hr ?_;(case hd=>rfl);(case hg=>rfl);(case hr=>first|(go_simp;done)|(go_simp;rfl));intro gb210 hg w22 hbox hb;have n0_:=zz00 (zz34 (g:=gb202) (o:=.cells #[.int .i64 t197,.int .i64 t198,.bool t199,.int .i64 t200] 34 (0,0)) (by (with_reducible repeat (first|refine zz07 ?_ _|refine zz09 ?_|refine zz08 ?_ _));exact BK202.out) hb);have n1_:=zz00 (zz21 (by repeat (first|(with_reducible first|exact HB.out|apply zz03|apply zz01|apply zz02|refine zz10 ?_ GE202.out)|exact HB.out)) hb);have n2_:=zz00 (hbox);have n3_:=zz00 ((by rw [hg];exact (zz22 (by repeat (first|(with_reducible first|exact HB.out|apply zz03|apply zz01|apply zz02|refine zz10 ?_ GE202.out)|exact HB.out))) : w.heap.size ≤ gb210));have n4_:=zz00 ((by rw [hg];exact (zz22 (by repeat (first|(with_reducible first|exact HB.out|apply zz03|apply zz01|apply zz02|refine zz10 ?_ GE202.out)|exact HB.out))) : w.heap.size ≤ gb210));have n5_:=zz00 ((by rw [hg];exact Nat.ne_of_lt (blk_lt (g:=gb202) (o:=.cells #[.int .i64 t197,.int .i64 t198,.bool t199,.int .i64 t200] 34 (0,0)) (by (with_reducible repeat (first|refine zz07 ?_ _|refine zz09 ?_|refine zz08 ?_ _));exact BK202.out)) : gb202 ≠ gb210));have n6_:=zz00 ((by rw [hg];exact Nat.ne_of_gt (blk_lt (g:=gb202) (o:=.cells #[.int .i64 t197,.int .i64 t198,.bool t199,.int .i64 t200] 34 (0,0)) (by (with_reducible repeat (first|refine zz07 ?_ _|refine zz09 ?_|refine zz08 ?_ _));exact BK202.out)) : gb210 ≠ gb202));clear BK202;clear HB;have BK202:=n0_;have HB:=n1_;have BK210:=n2_;have GW210:=n3_;have GE210:=n4_;have NB202_210:=n5_;have NB210_202:=n6_;clear n0_ n1_ n2_ n3_ n4_ n5_ n6_;clear hb hbox hg;have hnb23:=NB210_202.out;have hnc23:=NB202_210.out;have hcz24_0 : w22.cell? ⟨gb210,0,none⟩ = some (.int .i64 0):=(zz18 BK210.out 0).trans rfl;have hcz24_1 : w22.cell? ⟨gb210,1,none⟩ = some (.int .i64 0):=(zz18 BK210.out 1).trans rfl;have hcz24_2 : w22.cell? ⟨gb210,2,none⟩ = some (.bool false):=(zz18 BK210.out 2).trans rfl;have hcz24_3 : w22.cell? ⟨gb210,3,none⟩ = some (.int .i64 0):=(zz18 BK210.out 3).trans rfl;have hfz24_0:=zz17 BK210.out 0;have hfz24_1:=zz17 BK210.out 1;have hfz24_2:=zz17 BK210.out 2;have hfz24_3:=zz17 BK210.out 3;have hcz25_0 : w22.cell? ⟨gb202,0,none⟩ = some (.int .i64 t197):=(zz18 BK202.out 0).trans rfl;have hcz25_1 : w22.cell? ⟨gb202,1,none⟩ = some (.int .i64 t198):=(zz18 BK202.out 1).trans rfl;have hcz25_2 : w22.cell? ⟨gb202,2,none⟩ = some (.bool t199):=(zz18 BK202.out 2).trans rfl;have hcz25_3 : w22.cell? ⟨gb202,3,none⟩ = some (.int .i64 t200):=(zz18 BK202.out 3).trans rfl;have hfz25_0:=zz17 BK202.out 0;have hfz25_1:=zz17 BK202.out 1;have hfz25_2:=zz17 BK202.out 2;have hfz25_3:=zz17 BK202.out 3))
     go_ret
     exact ⟨by first|rfl|(simp [errW_none,errW_some] <;> rfl)|(simp [*,errW_none,errW_some] <;> rfl),by repeat (first|(with_reducible first|exact HB.out|apply zz03|apply zz01|apply zz02|refine zz10 ?_ GE202.out|refine zz10 ?_ GE210.out)|exact HB.out)⟩
   ·
    rw [if_neg c6] at H
    have c6b0 : (t204 == 0) = false := zz27.mpr c6
    have c6b1 : (t204 != 0) = true := zz28.mpr c6
    obtain rfl := Option.some.inj H
    go_enter Tryz.func15, Tryz.ntmps15
    go_wp2_with (first|((with_reducible refine zz23 (f:=20) rfl ?_);refine zz25 (some 8) rfl rfl Tryz.func20 (by kernel_rfl) rfl #[.string (⟨#[51,48,32,65,100,97,114,32,73,32,53,55,56,52]⟩ : ByteArray)] rfl (by (try simp only [List.map_toArray,List.map_cons,List.map_nil]);first|done|rfl|(simp only [List.length_drop,List.length_take];rfl)) ?_;(with_reducible refine (name_Read.calls (⟨#[51,48,32,65,100,97,114,32,73,32,53,55,56,52]⟩ : ByteArray) t197 t198 t199 t200 t201 _ ?side1 ?side2 ?side3 A1.out).mono ?_);(case side1=>exact GlobN.below HGN (by repeat (first|(with_reducible first|exact HB.out|apply zz03|apply zz01|apply zz02)|exact HB.out)));(case side2=>exact GlobS.below HGS (by repeat (first|(with_reducible first|exact HB.out|apply zz03|apply zz01|apply zz02)|exact HB.out)));(case side3=>exact GlobT.below HGT (by repeat (first|(with_reducible first|exact HB.out|apply zz03|apply zz01|apply zz02)|exact HB.out)));rintro e w26 ⟨rfl,hb⟩;refine ⟨_,rfl,?_⟩;have n0_:=zz00 (zz21 (by repeat (first|(with_reducible first|exact HB.out|apply zz03|apply zz01|apply zz02)|exact HB.out)) hb);clear HB;have HB:=n0_;clear n0_;(try clear hb);(try clear hb2);(try clear hk);(try clear hi))|((with_reducible refine zz24 (N:=1) rfl ?_);refine zz30 ?hg (N:=1) ?hd (cs:=#[.int .i64 0,.int .i64 0,.bool false,.int .i64 0]) (t:=34) ?hr ?_;(case hd=>rfl);(case hg=>rfl);(case hr=>first|(go_simp;done)|(go_simp;rfl));intro gb202 hg w27 hbox hb;have n0_:=zz00 (zz21 (by repeat (first|(with_reducible first|exact HB.out|apply zz03|apply zz01|apply zz02)|exact HB.out)) hb);have n1_:=zz00 (hbox);have n2_:=zz00 ((by rw [hg];exact (zz22 (by repeat (first|(with_reducible first|exact HB.out|apply zz03|apply zz01|apply zz02)|exact HB.out))) : w.heap.size ≤ gb202));have n3_:=zz00 ((by rw [hg];exact (zz22 (by repeat (first|(with_reducible first|exact HB.out|apply zz03|apply zz01|apply zz02)|exact HB.out))) : w.heap.size ≤ gb202));clear HB;have HB:=n0_;have BK202:=n1_;have GW202:=n2_;have GE202:=n3_;clear n0_ n1_ n2_ n3_;clear hb hbox hg;have hcz28_0 : w27.cell? ⟨gb202,0,none⟩ = some (.int .i64 0):=(zz18 BK202.out 0).trans rfl;have hcz28_1 : w27.cell? ⟨gb202,1,none⟩ = some (.int .i64 0):=(zz18 BK202.out 1).trans rfl;have hcz28_2 : w27.cell? ⟨gb202,2,none⟩ = some (.bool false):=(zz18 BK202.out 2).trans rfl;have hcz28_3 : w27.cell? ⟨gb202,3,none⟩ = some (.int .i64 0):=(zz18 BK202.out 3).trans rfl;have hfz28_0:=zz17 BK202.out 0;have hfz28_1:=zz17 BK202.out 1;have hfz28_2:=zz17 BK202.out 2;have hfz28_3:=zz17 BK202.out 3)|((with_reducible refine zz23 (f:=18) rfl ?_);refine zz25 (some 13) rfl rfl Tryz.func18 (by kernel_rfl) rfl #[.agg #[.int .i64 t197,.int .i64 t198,.bool t199,.int .i64 t200]] rfl (by (try simp only [List.map_toArray,List.map_cons,List.map_nil]);first|done|rfl|(simp only [List.length_drop,List.length_take];rfl)) ?_;(with_reducible refine (name_Print.calls t197 t198 t199 t200 t203 t204 _ ?side1 ?side2 ?side3 A2.out).mono ?_);(case side1=>exact GlobN.below HGN (by repeat (first|(with_reducible first|exact HB.out|apply zz03|apply zz01|apply zz02|refine zz10 ?_ GE202.out)|exact HB.out)));(case side2=>exact GlobS.below HGS (by repeat (first|(with_reducible first|exact HB.out|apply zz03|apply zz01|apply zz02|refine zz10 ?_ GE202.out)|exact HB.out)));(case side3=>exact GlobT.below HGT (by repeat (first|(with_reducible first|exact HB.out|apply zz03|apply zz01|apply zz02|refine zz10 ?_ GE202.out)|exact HB.out)));rintro e w29 ⟨rfl,hb⟩;refine ⟨_,rfl,?_⟩;have n0_:=zz00 (zz34 (g:=gb202) (o:=.cells #[.int .i64 t197,.int .i64 t198,.bool t199,.int .i64 t200] 34 (0,0)) (by (with_reducible repeat (first|refine zz07 ?_ _|refine zz09 ?_|refine zz08 ?_ _));refine zz35 (cs:=#[.int .i64 t197,.int .i64 t198,.bool t199,.int .i64 0]) ?_ 3 _ rfl;(with_reducible repeat (first|refine zz07 ?_ _|refine zz09 ?_|refine zz08 ?_ _));refine zz35 (cs:=#[.int .i64 t197,.int .i64 t198,.bool false,.int .i64 0]) ?_ 2 _ rfl;(with_reducible repeat (first|refine zz07 ?_ _|refine zz09 ?_|refine zz08 ?_ _));refine zz35 (cs:=#[.int .i64 t197,.int .i64 0,.bool false,.int .i64 0]) ?_ 1 _ rfl;(with_reducible repeat (first|refine zz07 ?_ _|refine zz09 ?_|refine zz08 ?_ _));refine zz35 (cs:=#[.int .i64 0,.int .i64 0,.bool false,.int .i64 0]) ?_ 0 _ rfl;(with_reducible repeat (first|refine zz07 ?_ _|refine zz09 ?_|refine zz08 ?_ _));exact BK202.out) hb);have n1_:=zz00 (zz21 (by repeat (first|(with_reducible first|exact HB.out|apply zz03|apply zz01|apply zz02|refine zz10 ?_ GE202.out)|exact HB.out)) hb);clear BK202;clear HB;have BK202:=n0_;have HB:=n1_;clear n0_ n1_;(try clear hb);(try clear hb2);(try clear hk);(try clear hi))|((with_reducible refine zz23 (f:=20) rfl ?_);refine zz25 (some 17) rfl rfl Tryz.func20 (by kernel_rfl) rfl #[.string (⟨#[51,48,32,65,100,97,114,32,73,32,53,55,56,53]⟩ : ByteArray)] rfl (by (try simp only [List.map_toArray,List.map_cons,List.map_nil]);first|done|rfl|(simp only [List.length_drop,List.length_take];rfl)) ?_;(with_reducible refine (name_Read.calls (⟨#[51,48,32,65,100,97,114,32,73,32,53,55,56,53]⟩ : ByteArray) t205 t206 t207 t208 t209 _ ?side1 ?side2 ?side3 A3.out).mono ?_);(case side1=>exact GlobN.below HGN (by repeat (first|(with_reducible first|exact HB.out|apply zz03|apply zz01|apply zz02|refine zz10 ?_ GE202.out)|exact HB.out)));(case side2=>exact GlobS.below HGS (by repeat (first|(with_reducible first|exact HB.out|apply zz03|apply zz01|apply zz02|refine zz10 ?_ GE202.out)|exact HB.out)));(case side3=>exact GlobT.below HGT (by repeat (first|(with_reducible first|exact HB.out|apply zz03|apply zz01|apply zz02|refine zz10 ?_ GE202.out)|exact HB.out)));rintro e w30 ⟨rfl,hb⟩;refine ⟨_,rfl,?_⟩;have n0_:=zz00 (zz34 (g:=gb202) (o:=.cells #[.int .i64 t197,.int .i64 t198,.bool t199,.int .i64 t200] 34 (0,0)) (by (with_reducible repeat (first|refine zz07 ?_ _|refine zz09 ?_|refine zz08 ?_ _));exact BK202.out) hb);have n1_:=zz00 (zz21 (by repeat (first|(with_reducible first|exact HB.out|apply zz03|apply zz01|apply zz02|refine zz10 ?_ GE202.out)|exact HB.out)) hb);clear BK202;clear HB;have BK202:=n0_;have HB:=n1_;clear n0_ n1_;(try clear hb);(try clear hb2);(try clear hk);(try clear hi))|((with_reducible refine zz24 (N:=5) rfl ?_);refine zz30 ?hg (N:=5) ?hd (cs:=#[.int .i64 0,.int .i64 0,.bool false,.int .i64 0]) (t:=34) ?hr ?_;(case hd=>rfl);(case hg=>rfl);(case hr=>first|(go_simp;done)|(go_simp;rfl));intro gb210 hg w31 hbox hb;have n0_:=zz00 (zz34 (g:=gb202) (o:=.cells #[.int .i64 t197,.int .i64 t198,.bool t199,.int .i64 t200] 34 (0,0)) (by (with_reducible repeat (first|refine zz07 ?_ _|refine zz09 ?_|refine zz08 ?_ _));exact BK202.out) hb);have n1_:=zz00 (zz21 (by repeat (first|(with_reducible first|exact HB.out|apply zz03|apply zz01|apply zz02|refine zz10 ?_ GE202.out)|exact HB.out)) hb);have n2_:=zz00 (hbox);have n3_:=zz00 ((by rw [hg];exact (zz22 (by repeat (first|(with_reducible first|exact HB.out|apply zz03|apply zz01|apply zz02|refine zz10 ?_ GE202.out)|exact HB.out))) : w.heap.size ≤ gb210));have n4_:=zz00 ((by rw [hg];exact (zz22 (by repeat (first|(with_reducible first|exact HB.out|apply zz03|apply zz01|apply zz02|refine zz10 ?_ GE202.out)|exact HB.out))) : w.heap.size ≤ gb210));have n5_:=zz00 ((by rw [hg];exact Nat.ne_of_lt (blk_lt (g:=gb202) (o:=.cells #[.int .i64 t197,.int .i64 t198,.bool t199,.int .i64 t200] 34 (0,0)) (by (with_reducible repeat (first|refine zz07 ?_ _|refine zz09 ?_|refine zz08 ?_ _));exact BK202.out)) : gb202 ≠ gb210));have n6_:=zz00 ((by rw [hg];exact Nat.ne_of_gt (blk_lt (g:=gb202) (o:=.cells #[.int .i64 t197,.int .i64 t198,.bool t199,.int .i64 t200] 34 (0,0)) (by (with_reducible repeat (first|refine zz07 ?_ _|refine zz09 ?_|refine zz08 ?_ _));exact BK202.out)) : gb210 ≠ gb202));clear BK202;clear HB;have BK202:=n0_;have HB:=n1_;have BK210:=n2_;have GW210:=n3_;have GE210:=n4_;have NB202_210:=n5_;have NB210_202:=n6_;clear n0_ n1_ n2_ n3_ n4_ n5_ n6_;clear hb hbox hg;have hnb32:=NB210_202.out;have hnc32:=NB202_210.out;have hcz33_0 : w31.cell? ⟨gb210,0,none⟩ = some (.int .i64 0):=(zz18 BK210.out 0).trans rfl;have hcz33_1 : w31.cell? ⟨gb210,1,none⟩ = some (.int .i64 0):=(zz18 BK210.out 1).trans rfl;have hcz33_2 : w31.cell? ⟨gb210,2,none⟩ = some (.bool false):=(zz18 BK210.out 2).trans rfl;have hcz33_3 : w31.cell? ⟨gb210,3,none⟩ = some (.int .i64 0):=(zz18 BK210.out 3).trans rfl;have hfz33_0:=zz17 BK210.out 0;have hfz33_1:=zz17 BK210.out 1;have hfz33_2:=zz17 BK210.out 2;have hfz33_3:=zz17 BK210.out 3;have hcz34_0 : w31.cell? ⟨gb202,0,none⟩ = some (.int .i64 t197):=(zz18 BK202.out 0).trans rfl;have hcz34_1 : w31.cell? ⟨gb202,1,none⟩ = some (.int .i64 t198):=(zz18 BK202.out 1).trans rfl;have hcz34_2 : w31.cell? ⟨gb202,2,none⟩ = some (.bool t199):=(zz18 BK202.out 2).trans rfl;have hcz34_3 : w31.cell? ⟨gb202,3,none⟩ = some (.int .i64 t200):=(zz18 BK202.out 3).trans rfl;have hfz34_0:=zz17 BK202.out 0;have hfz34_1:=zz17 BK202.out 1;have hfz34_2:=zz17 BK202.out 2;have hfz34_3:=zz17 BK202.out 3))
    go_ret
    exact ⟨by first|rfl|(simp [errW_none,errW_some] <;> rfl)|(simp [*,errW_none,errW_some] <;> rfl),by repeat (first|(with_reducible first|exact HB.out|apply zz03|apply zz01|apply zz02|refine zz10 ?_ GE202.out|refine zz10 ?_ GE210.out)|exact HB.out)⟩
  ·
   rw [if_neg c5] at H
   have c5b0 : (t197 == 5784 && ((t198 == 5 && (t199)) && (t200 == 30))) = false := by simpa using c5
   (try (have c5b1 : decide (t197 = 5784 && ((t198 == 5 && (t199)) && (t200 == 30))) = false := by simpa using c5))
   (try (have c5b2 : (t197 == 5784 && ((t198 == 5 && (t199)) && (t200 == 30))) = false := by simpa using c5))
   (try (have c5b3 : ¬ (t197 = 5784 && ((t198 == 5 && (t199)) && (t200 == 30))) := by simpa using c5))
   clear c5
   obtain rfl := Option.some.inj H
   go_enter Tryz.func15, Tryz.ntmps15
   go_wp2_with (first|((with_reducible refine zz23 (f:=20) rfl ?_);refine zz25 (some 8) rfl rfl Tryz.func20 (by kernel_rfl) rfl #[.string (⟨#[51,48,32,65,100,97,114,32,73,32,53,55,56,52]⟩ : ByteArray)] rfl (by (try simp only [List.map_toArray,List.map_cons,List.map_nil]);first|done|rfl|(simp only [List.length_drop,List.length_take];rfl)) ?_;(with_reducible refine (name_Read.calls (⟨#[51,48,32,65,100,97,114,32,73,32,53,55,56,52]⟩ : ByteArray) t197 t198 t199 t200 t201 _ ?side1 ?side2 ?side3 A1.out).mono ?_);(case side1=>exact GlobN.below HGN (by repeat (first|(with_reducible first|exact HB.out|apply zz03|apply zz01|apply zz02)|exact HB.out)));(case side2=>exact GlobS.below HGS (by repeat (first|(with_reducible first|exact HB.out|apply zz03|apply zz01|apply zz02)|exact HB.out)));(case side3=>exact GlobT.below HGT (by repeat (first|(with_reducible first|exact HB.out|apply zz03|apply zz01|apply zz02)|exact HB.out)));rintro e w35 ⟨rfl,hb⟩;refine ⟨_,rfl,?_⟩;have n0_:=zz00 (zz21 (by repeat (first|(with_reducible first|exact HB.out|apply zz03|apply zz01|apply zz02)|exact HB.out)) hb);clear HB;have HB:=n0_;clear n0_;(try clear hb);(try clear hb2);(try clear hk);(try clear hi))|((with_reducible refine zz24 (N:=1) rfl ?_);refine zz30 ?hg (N:=1) ?hd (cs:=#[.int .i64 0,.int .i64 0,.bool false,.int .i64 0]) (t:=34) ?hr ?_;(case hd=>rfl);(case hg=>rfl);(case hr=>first|(go_simp;done)|(go_simp;rfl));intro gb202 hg w36 hbox hb;have n0_:=zz00 (zz21 (by repeat (first|(with_reducible first|exact HB.out|apply zz03|apply zz01|apply zz02)|exact HB.out)) hb);have n1_:=zz00 (hbox);have n2_:=zz00 ((by rw [hg];exact (zz22 (by repeat (first|(with_reducible first|exact HB.out|apply zz03|apply zz01|apply zz02)|exact HB.out))) : w.heap.size ≤ gb202));have n3_:=zz00 ((by rw [hg];exact (zz22 (by repeat (first|(with_reducible first|exact HB.out|apply zz03|apply zz01|apply zz02)|exact HB.out))) : w.heap.size ≤ gb202));clear HB;have HB:=n0_;have BK202:=n1_;have GW202:=n2_;have GE202:=n3_;clear n0_ n1_ n2_ n3_;clear hb hbox hg;have hcz37_0 : w36.cell? ⟨gb202,0,none⟩ = some (.int .i64 0):=(zz18 BK202.out 0).trans rfl;have hcz37_1 : w36.cell? ⟨gb202,1,none⟩ = some (.int .i64 0):=(zz18 BK202.out 1).trans rfl;have hcz37_2 : w36.cell? ⟨gb202,2,none⟩ = some (.bool false):=(zz18 BK202.out 2).trans rfl;have hcz37_3 : w36.cell? ⟨gb202,3,none⟩ = some (.int .i64 0):=(zz18 BK202.out 3).trans rfl;have hfz37_0:=zz17 BK202.out 0;have hfz37_1:=zz17 BK202.out 1;have hfz37_2:=zz17 BK202.out 2;have hfz37_3:=zz17 BK202.out 3)|((with_reducible refine zz23 (f:=18) rfl ?_);refine zz25 (some 13) rfl rfl Tryz.func18 (by kernel_rfl) rfl #[.agg #[.int .i64 t197,.int .i64 t198,.bool t199,.int .i64 t200]] rfl (by (try simp only [List.map_toArray,List.map_cons,List.map_nil]);first|done|rfl|(simp only [List.length_drop,List.length_take];rfl)) ?_;(with_reducible refine (name_Print.calls t197 t198 t199 t200 t203 t204 _ ?side1 ?side2 ?side3 A2.out).mono ?_);(case side1=>exact GlobN.below HGN (by repeat (first|(with_reducible first|exact HB.out|apply zz03|apply zz01|apply zz02|refine zz10 ?_ GE202.out)|exact HB.out)));(case side2=>exact GlobS.below HGS (by repeat (first|(with_reducible first|exact HB.out|apply zz03|apply zz01|apply zz02|refine zz10 ?_ GE202.out)|exact HB.out)));(case side3=>exact GlobT.below HGT (by repeat (first|(with_reducible first|exact HB.out|apply zz03|apply zz01|apply zz02|refine zz10 ?_ GE202.out)|exact HB.out)));rintro e w38 ⟨rfl,hb⟩;refine ⟨_,rfl,?_⟩;have n0_:=zz00 (zz34 (g:=gb202) (o:=.cells #[.int .i64 t197,.int .i64 t198,.bool t199,.int .i64 t200] 34 (0,0)) (by (with_reducible repeat (first|refine zz07 ?_ _|refine zz09 ?_|refine zz08 ?_ _));refine zz35 (cs:=#[.int .i64 t197,.int .i64 t198,.bool t199,.int .i64 0]) ?_ 3 _ rfl;(with_reducible repeat (first|refine zz07 ?_ _|refine zz09 ?_|refine zz08 ?_ _));refine zz35 (cs:=#[.int .i64 t197,.int .i64 t198,.bool false,.int .i64 0]) ?_ 2 _ rfl;(with_reducible repeat (first|refine zz07 ?_ _|refine zz09 ?_|refine zz08 ?_ _));refine zz35 (cs:=#[.int .i64 t197,.int .i64 0,.bool false,.int .i64 0]) ?_ 1 _ rfl;(with_reducible repeat (first|refine zz07 ?_ _|refine zz09 ?_|refine zz08 ?_ _));refine zz35 (cs:=#[.int .i64 0,.int .i64 0,.bool false,.int .i64 0]) ?_ 0 _ rfl;(with_reducible repeat (first|refine zz07 ?_ _|refine zz09 ?_|refine zz08 ?_ _));exact BK202.out) hb);have n1_:=zz00 (zz21 (by repeat (first|(with_reducible first|exact HB.out|apply zz03|apply zz01|apply zz02|refine zz10 ?_ GE202.out)|exact HB.out)) hb);clear BK202;clear HB;have BK202:=n0_;have HB:=n1_;clear n0_ n1_;(try clear hb);(try clear hb2);(try clear hk);(try clear hi))|((with_reducible refine zz23 (f:=20) rfl ?_);refine zz25 (some 17) rfl rfl Tryz.func20 (by kernel_rfl) rfl #[.string (⟨#[51,48,32,65,100,97,114,32,73,32,53,55,56,53]⟩ : ByteArray)] rfl (by (try simp only [List.map_toArray,List.map_cons,List.map_nil]);first|done|rfl|(simp only [List.length_drop,List.length_take];rfl)) ?_;(with_reducible refine (name_Read.calls (⟨#[51,48,32,65,100,97,114,32,73,32,53,55,56,53]⟩ : ByteArray) t205 t206 t207 t208 t209 _ ?side1 ?side2 ?side3 A3.out).mono ?_);(case side1=>exact GlobN.below HGN (by repeat (first|(with_reducible first|exact HB.out|apply zz03|apply zz01|apply zz02|refine zz10 ?_ GE202.out)|exact HB.out)));(case side2=>exact GlobS.below HGS (by repeat (first|(with_reducible first|exact HB.out|apply zz03|apply zz01|apply zz02|refine zz10 ?_ GE202.out)|exact HB.out)));(case side3=>exact GlobT.below HGT (by repeat (first|(with_reducible first|exact HB.out|apply zz03|apply zz01|apply zz02|refine zz10 ?_ GE202.out)|exact HB.out)));rintro e w39 ⟨rfl,hb⟩;refine ⟨_,rfl,?_⟩;have n0_:=zz00 (zz34 (g:=gb202) (o:=.cells #[.int .i64 t197,.int .i64 t198,.bool t199,.int .i64 t200] 34 (0,0)) (by (with_reducible repeat (first|refine zz07 ?_ _|refine zz09 ?_|refine zz08 ?_ _));exact BK202.out) hb);have n1_:=zz00 (zz21 (by repeat (first|(with_reducible first|exact HB.out|apply zz03|apply zz01|apply zz02|refine zz10 ?_ GE202.out)|exact HB.out)) hb);clear BK202;clear HB;have BK202:=n0_;have HB:=n1_;clear n0_ n1_;(try clear hb);(try clear hb2);(try clear hk);(try clear hi))|((with_reducible refine zz24 (N:=5) rfl ?_);refine zz30 ?hg (N:=5) ?hd (cs:=#[.int .i64 0,.int .i64 0,.bool false,.int .i64 0]) (t:=34) ?hr ?_;(case hd=>rfl);(case hg=>rfl);(case hr=>first|(go_simp;done)|(go_simp;rfl));intro gb210 hg w40 hbox hb;have n0_:=zz00 (zz34 (g:=gb202) (o:=.cells #[.int .i64 t197,.int .i64 t198,.bool t199,.int .i64 t200] 34 (0,0)) (by (with_reducible repeat (first|refine zz07 ?_ _|refine zz09 ?_|refine zz08 ?_ _));exact BK202.out) hb);have n1_:=zz00 (zz21 (by repeat (first|(with_reducible first|exact HB.out|apply zz03|apply zz01|apply zz02|refine zz10 ?_ GE202.out)|exact HB.out)) hb);have n2_:=zz00 (hbox);have n3_:=zz00 ((by rw [hg];exact (zz22 (by repeat (first|(with_reducible first|exact HB.out|apply zz03|apply zz01|apply zz02|refine zz10 ?_ GE202.out)|exact HB.out))) : w.heap.size ≤ gb210));have n4_:=zz00 ((by rw [hg];exact (zz22 (by repeat (first|(with_reducible first|exact HB.out|apply zz03|apply zz01|apply zz02|refine zz10 ?_ GE202.out)|exact HB.out))) : w.heap.size ≤ gb210));have n5_:=zz00 ((by rw [hg];exact Nat.ne_of_lt (blk_lt (g:=gb202) (o:=.cells #[.int .i64 t197,.int .i64 t198,.bool t199,.int .i64 t200] 34 (0,0)) (by (with_reducible repeat (first|refine zz07 ?_ _|refine zz09 ?_|refine zz08 ?_ _));exact BK202.out)) : gb202 ≠ gb210));have n6_:=zz00 ((by rw [hg];exact Nat.ne_of_gt (blk_lt (g:=gb202) (o:=.cells #[.int .i64 t197,.int .i64 t198,.bool t199,.int .i64 t200] 34 (0,0)) (by (with_reducible repeat (first|refine zz07 ?_ _|refine zz09 ?_|refine zz08 ?_ _));exact BK202.out)) : gb210 ≠ gb202));clear BK202;clear HB;have BK202:=n0_;have HB:=n1_;have BK210:=n2_;have GW210:=n3_;have GE210:=n4_;have NB202_210:=n5_;have NB210_202:=n6_;clear n0_ n1_ n2_ n3_ n4_ n5_ n6_;clear hb hbox hg;have hnb41:=NB210_202.out;have hnc41:=NB202_210.out;have hcz42_0 : w40.cell? ⟨gb210,0,none⟩ = some (.int .i64 0):=(zz18 BK210.out 0).trans rfl;have hcz42_1 : w40.cell? ⟨gb210,1,none⟩ = some (.int .i64 0):=(zz18 BK210.out 1).trans rfl;have hcz42_2 : w40.cell? ⟨gb210,2,none⟩ = some (.bool false):=(zz18 BK210.out 2).trans rfl;have hcz42_3 : w40.cell? ⟨gb210,3,none⟩ = some (.int .i64 0):=(zz18 BK210.out 3).trans rfl;have hfz42_0:=zz17 BK210.out 0;have hfz42_1:=zz17 BK210.out 1;have hfz42_2:=zz17 BK210.out 2;have hfz42_3:=zz17 BK210.out 3;have hcz43_0 : w40.cell? ⟨gb202,0,none⟩ = some (.int .i64 t197):=(zz18 BK202.out 0).trans rfl;have hcz43_1 : w40.cell? ⟨gb202,1,none⟩ = some (.int .i64 t198):=(zz18 BK202.out 1).trans rfl;have hcz43_2 : w40.cell? ⟨gb202,2,none⟩ = some (.bool t199):=(zz18 BK202.out 2).trans rfl;have hcz43_3 : w40.cell? ⟨gb202,3,none⟩ = some (.int .i64 t200):=(zz18 BK202.out 3).trans rfl;have hfz43_0:=zz17 BK202.out 0;have hfz43_1:=zz17 BK202.out 1;have hfz43_2:=zz17 BK202.out 2;have hfz43_3:=zz17 BK202.out 3))
   go_ret
   exact ⟨by first|rfl|(simp [errW_none,errW_some] <;> rfl)|(simp [*,errW_none,errW_some] <;> rfl),by repeat (first|(with_reducible first|exact HB.out|apply zz03|apply zz01|apply zz02|refine zz10 ?_ GE202.out|refine zz10 ?_ GE210.out)|exact HB.out)⟩
 ·
  rw [if_neg c4] at H
  have c4b0 : (t201 == 0) = false := zz27.mpr c4
  have c4b1 : (t201 != 0) = true := zz28.mpr c4
  obtain rfl := Option.some.inj H
  go_enter Tryz.func15, Tryz.ntmps15
  go_wp2_with (first|((with_reducible refine zz23 (f:=20) rfl ?_);refine zz25 (some 8) rfl rfl Tryz.func20 (by kernel_rfl) rfl #[.string (⟨#[51,48,32,65,100,97,114,32,73,32,53,55,56,52]⟩ : ByteArray)] rfl (by (try simp only [List.map_toArray,List.map_cons,List.map_nil]);first|done|rfl|(simp only [List.length_drop,List.length_take];rfl)) ?_;(with_reducible refine (name_Read.calls (⟨#[51,48,32,65,100,97,114,32,73,32,53,55,56,52]⟩ : ByteArray) t197 t198 t199 t200 t201 _ ?side1 ?side2 ?side3 A1.out).mono ?_);(case side1=>exact GlobN.below HGN (by repeat (first|(with_reducible first|exact HB.out|apply zz03|apply zz01|apply zz02)|exact HB.out)));(case side2=>exact GlobS.below HGS (by repeat (first|(with_reducible first|exact HB.out|apply zz03|apply zz01|apply zz02)|exact HB.out)));(case side3=>exact GlobT.below HGT (by repeat (first|(with_reducible first|exact HB.out|apply zz03|apply zz01|apply zz02)|exact HB.out)));rintro e w44 ⟨rfl,hb⟩;refine ⟨_,rfl,?_⟩;have n0_:=zz00 (zz21 (by repeat (first|(with_reducible first|exact HB.out|apply zz03|apply zz01|apply zz02)|exact HB.out)) hb);clear HB;have HB:=n0_;clear n0_;(try clear hb);(try clear hb2);(try clear hk);(try clear hi))|((with_reducible refine zz24 (N:=1) rfl ?_);refine zz30 ?hg (N:=1) ?hd (cs:=#[.int .i64 0,.int .i64 0,.bool false,.int .i64 0]) (t:=34) ?hr ?_;(case hd=>rfl);(case hg=>rfl);(case hr=>first|(go_simp;done)|(go_simp;rfl));intro gb202 hg w45 hbox hb;have n0_:=zz00 (zz21 (by repeat (first|(with_reducible first|exact HB.out|apply zz03|apply zz01|apply zz02)|exact HB.out)) hb);have n1_:=zz00 (hbox);have n2_:=zz00 ((by rw [hg];exact (zz22 (by repeat (first|(with_reducible first|exact HB.out|apply zz03|apply zz01|apply zz02)|exact HB.out))) : w.heap.size ≤ gb202));have n3_:=zz00 ((by rw [hg];exact (zz22 (by repeat (first|(with_reducible first|exact HB.out|apply zz03|apply zz01|apply zz02)|exact HB.out))) : w.heap.size ≤ gb202));clear HB;have HB:=n0_;have BK202:=n1_;have GW202:=n2_;have GE202:=n3_;clear n0_ n1_ n2_ n3_;clear hb hbox hg;have hcz46_0 : w45.cell? ⟨gb202,0,none⟩ = some (.int .i64 0):=(zz18 BK202.out 0).trans rfl;have hcz46_1 : w45.cell? ⟨gb202,1,none⟩ = some (.int .i64 0):=(zz18 BK202.out 1).trans rfl;have hcz46_2 : w45.cell? ⟨gb202,2,none⟩ = some (.bool false):=(zz18 BK202.out 2).trans rfl;have hcz46_3 : w45.cell? ⟨gb202,3,none⟩ = some (.int .i64 0):=(zz18 BK202.out 3).trans rfl;have hfz46_0:=zz17 BK202.out 0;have hfz46_1:=zz17 BK202.out 1;have hfz46_2:=zz17 BK202.out 2;have hfz46_3:=zz17 BK202.out 3)|((with_reducible refine zz23 (f:=18) rfl ?_);refine zz25 (some 13) rfl rfl Tryz.func18 (by kernel_rfl) rfl #[.agg #[.int .i64 t197,.int .i64 t198,.bool t199,.int .i64 t200]] rfl (by (try simp only [List.map_toArray,List.map_cons,List.map_nil]);first|done|rfl|(simp only [List.length_drop,List.length_take];rfl)) ?_;(with_reducible refine (name_Print.calls t197 t198 t199 t200 t203 t204 _ ?side1 ?side2 ?side3 A2.out).mono ?_);(case side1=>exact GlobN.below HGN (by repeat (first|(with_reducible first|exact HB.out|apply zz03|apply zz01|apply zz02|refine zz10 ?_ GE202.out)|exact HB.out)));(case side2=>exact GlobS.below HGS (by repeat (first|(with_reducible first|exact HB.out|apply zz03|apply zz01|apply zz02|refine zz10 ?_ GE202.out)|exact HB.out)));(case side3=>exact GlobT.below HGT (by repeat (first|(with_reducible first|exact HB.out|apply zz03|apply zz01|apply zz02|refine zz10 ?_ GE202.out)|exact HB.out)));rintro e w47 ⟨rfl,hb⟩;refine ⟨_,rfl,?_⟩;have n0_:=zz00 (zz34 (g:=gb202) (o:=.cells #[.int .i64 t197,.int .i64 t198,.bool t199,.int .i64 t200] 34 (0,0)) (by (with_reducible repeat (first|refine zz07 ?_ _|refine zz09 ?_|refine zz08 ?_ _));refine zz35 (cs:=#[.int .i64 t197,.int .i64 t198,.bool t199,.int .i64 0]) ?_ 3 _ rfl;(with_reducible repeat (first|refine zz07 ?_ _|refine zz09 ?_|refine zz08 ?_ _));refine zz35 (cs:=#[.int .i64 t197,.int .i64 t198,.bool false,.int .i64 0]) ?_ 2 _ rfl;(with_reducible repeat (first|refine zz07 ?_ _|refine zz09 ?_|refine zz08 ?_ _));refine zz35 (cs:=#[.int .i64 t197,.int .i64 0,.bool false,.int .i64 0]) ?_ 1 _ rfl;(with_reducible repeat (first|refine zz07 ?_ _|refine zz09 ?_|refine zz08 ?_ _));refine zz35 (cs:=#[.int .i64 0,.int .i64 0,.bool false,.int .i64 0]) ?_ 0 _ rfl;(with_reducible repeat (first|refine zz07 ?_ _|refine zz09 ?_|refine zz08 ?_ _));exact BK202.out) hb);have n1_:=zz00 (zz21 (by repeat (first|(with_reducible first|exact HB.out|apply zz03|apply zz01|apply zz02|refine zz10 ?_ GE202.out)|exact HB.out)) hb);clear BK202;clear HB;have BK202:=n0_;have HB:=n1_;clear n0_ n1_;(try clear hb);(try clear hb2);(try clear hk);(try clear hi))|((with_reducible refine zz23 (f:=20) rfl ?_);refine zz25 (some 17) rfl rfl Tryz.func20 (by kernel_rfl) rfl #[.string (⟨#[51,48,32,65,100,97,114,32,73,32,53,55,56,53]⟩ : ByteArray)] rfl (by (try simp only [List.map_toArray,List.map_cons,List.map_nil]);first|done|rfl|(simp only [List.length_drop,List.length_take];rfl)) ?_;(with_reducible refine (name_Read.calls (⟨#[51,48,32,65,100,97,114,32,73,32,53,55,56,53]⟩ : ByteArray) t205 t206 t207 t208 t209 _ ?side1 ?side2 ?side3 A3.out).mono ?_);(case side1=>exact GlobN.below HGN (by repeat (first|(with_reducible first|exact HB.out|apply zz03|apply zz01|apply zz02|refine zz10 ?_ GE202.out)|exact HB.out)));(case side2=>exact GlobS.below HGS (by repeat (first|(with_reducible first|exact HB.out|apply zz03|apply zz01|apply zz02|refine zz10 ?_ GE202.out)|exact HB.out)));(case side3=>exact GlobT.below HGT (by repeat (first|(with_reducible first|exact HB.out|apply zz03|apply zz01|apply zz02|refine zz10 ?_ GE202.out)|exact HB.out)));rintro e w48 ⟨rfl,hb⟩;refine ⟨_,rfl,?_⟩;have n0_:=zz00 (zz34 (g:=gb202) (o:=.cells #[.int .i64 t197,.int .i64 t198,.bool t199,.int .i64 t200] 34 (0,0)) (by (with_reducible repeat (first|refine zz07 ?_ _|refine zz09 ?_|refine zz08 ?_ _));exact BK202.out) hb);have n1_:=zz00 (zz21 (by repeat (first|(with_reducible first|exact HB.out|apply zz03|apply zz01|apply zz02|refine zz10 ?_ GE202.out)|exact HB.out)) hb);clear BK202;clear HB;have BK202:=n0_;have HB:=n1_;clear n0_ n1_;(try clear hb);(try clear hb2);(try clear hk);(try clear hi))|((with_reducible refine zz24 (N:=5) rfl ?_);refine zz30 ?hg (N:=5) ?hd (cs:=#[.int .i64 0,.int .i64 0,.bool false,.int .i64 0]) (t:=34) ?hr ?_;(case hd=>rfl);(case hg=>rfl);(case hr=>first|(go_simp;done)|(go_simp;rfl));intro gb210 hg w49 hbox hb;have n0_:=zz00 (zz34 (g:=gb202) (o:=.cells #[.int .i64 t197,.int .i64 t198,.bool t199,.int .i64 t200] 34 (0,0)) (by (with_reducible repeat (first|refine zz07 ?_ _|refine zz09 ?_|refine zz08 ?_ _));exact BK202.out) hb);have n1_:=zz00 (zz21 (by repeat (first|(with_reducible first|exact HB.out|apply zz03|apply zz01|apply zz02|refine zz10 ?_ GE202.out)|exact HB.out)) hb);have n2_:=zz00 (hbox);have n3_:=zz00 ((by rw [hg];exact (zz22 (by repeat (first|(with_reducible first|exact HB.out|apply zz03|apply zz01|apply zz02|refine zz10 ?_ GE202.out)|exact HB.out))) : w.heap.size ≤ gb210));have n4_:=zz00 ((by rw [hg];exact (zz22 (by repeat (first|(with_reducible first|exact HB.out|apply zz03|apply zz01|apply zz02|refine zz10 ?_ GE202.out)|exact HB.out))) : w.heap.size ≤ gb210));have n5_:=zz00 ((by rw [hg];exact Nat.ne_of_lt (blk_lt (g:=gb202) (o:=.cells #[.int .i64 t197,.int .i64 t198,.bool t199,.int .i64 t200] 34 (0,0)) (by (with_reducible repeat (first|refine zz07 ?_ _|refine zz09 ?_|refine zz08 ?_ _));exact BK202.out)) : gb202 ≠ gb210));have n6_:=zz00 ((by rw [hg];exact Nat.ne_of_gt (blk_lt (g:=gb202) (o:=.cells #[.int .i64 t197,.int .i64 t198,.bool t199,.int .i64 t200] 34 (0,0)) (by (with_reducible repeat (first|refine zz07 ?_ _|refine zz09 ?_|refine zz08 ?_ _));exact BK202.out)) : gb210 ≠ gb202));clear BK202;clear HB;have BK202:=n0_;have HB:=n1_;have BK210:=n2_;have GW210:=n3_;have GE210:=n4_;have NB202_210:=n5_;have NB210_202:=n6_;clear n0_ n1_ n2_ n3_ n4_ n5_ n6_;clear hb hbox hg;have hnb50:=NB210_202.out;have hnc50:=NB202_210.out;have hcz51_0 : w49.cell? ⟨gb210,0,none⟩ = some (.int .i64 0):=(zz18 BK210.out 0).trans rfl;have hcz51_1 : w49.cell? ⟨gb210,1,none⟩ = some (.int .i64 0):=(zz18 BK210.out 1).trans rfl;have hcz51_2 : w49.cell? ⟨gb210,2,none⟩ = some (.bool false):=(zz18 BK210.out 2).trans rfl;have hcz51_3 : w49.cell? ⟨gb210,3,none⟩ = some (.int .i64 0):=(zz18 BK210.out 3).trans rfl;have hfz51_0:=zz17 BK210.out 0;have hfz51_1:=zz17 BK210.out 1;have hfz51_2:=zz17 BK210.out 2;have hfz51_3:=zz17 BK210.out 3))
  go_ret
  exact ⟨by first|rfl|(simp [errW_none,errW_some] <;> rfl)|(simp [*,errW_none,errW_some] <;> rfl),by repeat (first|(with_reducible first|exact HB.out|apply zz03|apply zz01|apply zz02|refine zz10 ?_ GE202.out|refine zz10 ?_ GE210.out)|exact HB.out)⟩

def almanackerref01_Left.f (a0 : Int) (a1 : Int) : Option (Int) := if a1 = 0 then (none) else (if (Int.tmod a0 a1) < 0 then (some (wrap64 ((Int.tmod a0 a1) + a1))) else (some (Int.tmod a0 a1)))
set_option maxHeartbeats 8000000 in
set_option maxRecDepth 100000 in
theorem almanackerref01_Left.calls (a0 : Int) (a1 : Int) (r : Int) (w : World) (h : almanackerref01_Left.f a0 a1 = some r) :
    Calls Tryz.prog 60 #[.int .i64 a0, .int .i64 a1] w fun e w' => e = .returned (.int .i64 r) ∧ Drawn0 w w' := by
  have H : (if a1 = 0 then (none) else (if (Int.tmod a0 a1) < 0 then (some (wrap64 ((Int.tmod a0 a1) + a1))) else (some (Int.tmod a0 a1)))) = some r := h
  clear h
  by_cases c3 : a1 = 0
  · rw [if_pos c3] at H
    exact absurd H (by simp)
  · rw [if_neg c3] at H
    have c3b0 : (a1 == 0) = false := zz27.mpr c3
    have c3b1 : (a1 != 0) = true := zz28.mpr c3
    by_cases c4 : (Int.tmod a0 a1) < 0
    · rw [if_pos c4] at H
      have c4b0 : decide ((Int.tmod a0 a1) < 0) = true := decide_eq_true c4
      clear c4
      obtain rfl := Option.some.inj H
      go_enter Tryz.func60, Tryz.ntmps60
      go_wp2
      go_ret
      exact ⟨by first | rfl | (simp; done) | (simp [*]; done), by repeat (first | exact Drawn0.refl _ | apply Drawn0.step)⟩
    · rw [if_neg c4] at H
      have c4b0 : decide ((Int.tmod a0 a1) < 0) = false := decide_eq_false c4
      clear c4
      obtain rfl := Option.some.inj H
      go_enter Tryz.func60, Tryz.ntmps60
      go_wp2
      go_ret
      exact ⟨by first | rfl | (simp; done) | (simp [*]; done), by repeat (first | exact Drawn0.refl _ | apply Drawn0.step)⟩

def almanackerref03_Is.f (a0 : Int) : Option (Bool) := (almanackerref01_Left.f (wrap64 ((wrap64 (7 * a0)) + 1)) 19).bind fun t211 => (some (decide (t211 < 7)))
set_option maxHeartbeats 8000000 in
set_option maxRecDepth 100000 in
theorem almanackerref03_Is.calls (a0 : Int) (r : Bool) (w : World) (h : almanackerref03_Is.f a0 = some r) :
  Calls Tryz.prog 23 #[.int .i64 a0] w fun e w' => e = .returned (.bool r) ∧ Drawn0 w w' := by
 have H : ((almanackerref01_Left.f (wrap64 ((wrap64 (7 * a0)) + 1)) 19).bind fun t211 => (some (decide (t211 < 7)))) = some r := h
 clear h
 replace H := zz14.mp H
 obtain ⟨t211, A20, H⟩ := H
 replace H : (some (decide (t211 < 7))) = some r := H
 have A2 := zz00 A20
 clear A20
 obtain rfl := Option.some.inj H
 go_enter Tryz.func23, Tryz.ntmps23
 go_wp2_with (first|((with_reducible refine zz23 (f:=60) rfl ?_);refine zz25 (some 6) rfl rfl Tryz.func60 (by kernel_rfl) rfl #[.int .i64 (wrap64 ((wrap64 (7 * a0)) + 1)),.int .i64 19] rfl (by (try simp only [List.map_toArray,List.map_cons,List.map_nil]);first|done|rfl|(simp only [List.length_drop,List.length_take];rfl)) ?_;(with_reducible refine (almanackerref01_Left.calls (wrap64 ((wrap64 (7 * a0)) + 1)) 19 t211 _ A2.out).mono ?_);rintro e w' ⟨rfl,⟨nd,rfl⟩⟩;refine ⟨_,rfl,?_⟩))
 go_ret
 exact ⟨by first | rfl | (simp; done) | (simp [*]; done), by repeat (first | exact Drawn0.refl _ | apply Drawn0.step)⟩

def almanackerref04_Weekday.f (a0 : Int) : Option (Int) := (almanackerref01_Left.f a0 7).bind fun t212 => (some t212)
set_option maxHeartbeats 8000000 in
set_option maxRecDepth 100000 in
theorem almanackerref04_Weekday.calls (a0 : Int) (r : Int) (w : World) (h : almanackerref04_Weekday.f a0 = some r) :
  Calls Tryz.prog 90 #[.int .i64 a0] w fun e w' => e = .returned (.int .i64 r) ∧ Drawn0 w w' := by
 have H : ((almanackerref01_Left.f a0 7).bind fun t212 => (some t212)) = some r := h
 clear h
 replace H := zz14.mp H
 obtain ⟨t212, A20, H⟩ := H
 replace H : (some t212) = some r := H
 have A2 := zz00 A20
 clear A20
 obtain rfl := Option.some.inj H
 go_enter Tryz.func90, Tryz.ntmps90
 go_wp2_with (first|((with_reducible refine zz23 (f:=60) rfl ?_);refine zz25 (some 4) rfl rfl Tryz.func60 (by kernel_rfl) rfl #[.int .i64 a0,.int .i64 7] rfl (by (try simp only [List.map_toArray,List.map_cons,List.map_nil]);first|done|rfl|(simp only [List.length_drop,List.length_take];rfl)) ?_;(with_reducible refine (almanackerref01_Left.calls a0 7 t212 _ A2.out).mono ?_);rintro e w' ⟨rfl,⟨nd,rfl⟩⟩;refine ⟨_,rfl,?_⟩))
 go_ret
 exact ⟨by first | rfl | (simp; done) | (simp [*]; done), by repeat (first | exact Drawn0.refl _ | apply Drawn0.step)⟩

def almanackerref03_Right.f (a0 : Int) : Option (Bool) := if a0 ≥ 0 then (some (decide (a0 ≤ 10001))) else (some false)
set_option maxHeartbeats 8000000 in
set_option maxRecDepth 100000 in
theorem almanackerref03_Right.calls (a0 : Int) (r : Bool) (w : World) (h : almanackerref03_Right.f a0 = some r) :
    Calls Tryz.prog 238 #[.int .i64 a0] w fun e w' => e = .returned (.bool r) ∧ Drawn0 w w' := by
  have H : (if a0 ≥ 0 then (some (decide (a0 ≤ 10001))) else (some false)) = some r := h
  clear h
  by_cases c2 : a0 ≥ 0
  · rw [if_pos c2] at H
    have c2b0 : decide (0 ≤ a0) = true := decide_eq_true c2
    clear c2
    obtain rfl := Option.some.inj H
    go_enter Tryz.func238, Tryz.ntmps238
    go_wp2
    go_ret
    exact ⟨by first | rfl | (simp; done) | (simp [*]; done), by repeat (first | exact Drawn0.refl _ | apply Drawn0.step)⟩
  · rw [if_neg c2] at H
    have c2b0 : decide (0 ≤ a0) = false := decide_eq_false c2
    clear c2
    obtain rfl := Option.some.inj H
    go_enter Tryz.func238, Tryz.ntmps238
    go_wp2
    go_ret
    exact ⟨by first | rfl | (simp; done) | (simp [*]; done), by repeat (first | exact Drawn0.refl _ | apply Drawn0.step)⟩

def almanackerref03_In.f (a0 : Int) : Option (Int × Int) := (almanackerref03_Right.f a0).bind fun t213 => (if t213 = true then ((almanackerref03_Is.f a0).bind fun t214 => (if t214 = true then (some (13, 0)) else (some (12, 0)))) else (some (0, 2)))
set_option maxHeartbeats 8000000 in
set_option maxRecDepth 100000 in
theorem almanackerref03_In.calls (a0 : Int) (r1 : Int) (r2 : Int) (w : World) (h : almanackerref03_In.f a0 = some (r1, r2)) :
  Calls Tryz.prog 196 #[.int .i64 a0] w fun e w' => e = .returned (.tuple #[.int .i64 r1, .int .i64 r2]) ∧ Drawn0 w w' := by
 have H : ((almanackerref03_Right.f a0).bind fun t213=>(if t213 = true then ((almanackerref03_Is.f a0).bind fun t214=>(if t214 = true then (some (13,0)) else (some (12,0)))) else (some (0,2)))) = some (r1,r2):=h
 clear h
 replace H := zz14.mp H
 obtain ⟨t213, A20, H⟩ := H
 replace H : (if t213 = true then ((almanackerref03_Is.f a0).bind fun t214 => (if t214 = true then (some (13, 0)) else (some (12, 0)))) else (some (0, 2))) = some (r1, r2) := H
 have A2 := zz00 A20
 clear A20
 by_cases c3 : t213 = true
 ·
  subst c3
  have H1 : ((almanackerref03_Is.f a0).bind fun t214 => (if t214 = true then (some (13, 0)) else (some (12, 0)))) = some (r1, r2) := by rw [if_pos rfl] at H; exact H
  clear H
  have H := H1
  clear H1
  replace H := zz14.mp H
  obtain ⟨t214, A40, H⟩ := H
  replace H : (if t214 = true then (some (13, 0)) else (some (12, 0))) = some (r1, r2) := H
  have A4 := zz00 A40
  clear A40
  by_cases c5 : t214 = true
  ·
   subst c5
   have H1 : (some (13, 0)) = some (r1, r2) := by rw [if_pos rfl] at H; exact H
   clear H
   have H := H1
   clear H1
   simp only [zz15, zz16] at H
   obtain ⟨rfl, rfl⟩ := H
   go_enter Tryz.func196, Tryz.ntmps196
   go_wp2_with (first|((with_reducible refine zz23 (f:=238) rfl ?_);refine zz25 (some 5) rfl rfl Tryz.func238 (by kernel_rfl) rfl #[.int .i64 a0] rfl (by (try simp only [List.map_toArray,List.map_cons,List.map_nil]);first|done|rfl|(simp only [List.length_drop,List.length_take];rfl)) ?_;(with_reducible refine (almanackerref03_Right.calls a0 true _ A2.out).mono ?_);rintro e w' ⟨rfl,⟨nd,rfl⟩⟩;refine ⟨_,rfl,?_⟩)|((with_reducible refine zz23 (f:=23) rfl ?_);refine zz25 (some 8) rfl rfl Tryz.func23 (by kernel_rfl) rfl #[.int .i64 a0] rfl (by (try simp only [List.map_toArray,List.map_cons,List.map_nil]);first|done|rfl|(simp only [List.length_drop,List.length_take];rfl)) ?_;(with_reducible refine (almanackerref03_Is.calls a0 true _ A4.out).mono ?_);rintro e w' ⟨rfl,⟨nd,rfl⟩⟩;refine ⟨_,rfl,?_⟩))
   go_ret2
   exact ⟨by first | rfl | (simp; done) | (simp [*]; done), by repeat (first | exact Drawn0.refl _ | apply Drawn0.step)⟩
  ·
   replace c5 := zz32.mpr c5
   subst c5
   have H1 : (some (12, 0)) = some (r1, r2) := by rw [if_neg (show ¬ (false = true) by decide)] at H; exact H
   clear H
   have H := H1
   clear H1
   simp only [zz15, zz16] at H
   obtain ⟨rfl, rfl⟩ := H
   go_enter Tryz.func196, Tryz.ntmps196
   go_wp2_with (first|((with_reducible refine zz23 (f:=238) rfl ?_);refine zz25 (some 5) rfl rfl Tryz.func238 (by kernel_rfl) rfl #[.int .i64 a0] rfl (by (try simp only [List.map_toArray,List.map_cons,List.map_nil]);first|done|rfl|(simp only [List.length_drop,List.length_take];rfl)) ?_;(with_reducible refine (almanackerref03_Right.calls a0 true _ A2.out).mono ?_);rintro e w' ⟨rfl,⟨nd,rfl⟩⟩;refine ⟨_,rfl,?_⟩)|((with_reducible refine zz23 (f:=23) rfl ?_);refine zz25 (some 8) rfl rfl Tryz.func23 (by kernel_rfl) rfl #[.int .i64 a0] rfl (by (try simp only [List.map_toArray,List.map_cons,List.map_nil]);first|done|rfl|(simp only [List.length_drop,List.length_take];rfl)) ?_;(with_reducible refine (almanackerref03_Is.calls a0 false _ A4.out).mono ?_);rintro e w' ⟨rfl,⟨nd,rfl⟩⟩;refine ⟨_,rfl,?_⟩))
   go_ret2
   exact ⟨by first | rfl | (simp; done) | (simp [*]; done), by repeat (first | exact Drawn0.refl _ | apply Drawn0.step)⟩
 ·
  replace c3 := zz32.mpr c3
  subst c3
  have H1 : (some (0, 2)) = some (r1, r2) := by rw [if_neg (show ¬ (false = true) by decide)] at H; exact H
  clear H
  have H := H1
  clear H1
  simp only [zz15, zz16] at H
  obtain ⟨rfl, rfl⟩ := H
  go_enter Tryz.func196, Tryz.ntmps196
  go_wp2_with (first|((with_reducible refine zz23 (f:=238) rfl ?_);refine zz25 (some 5) rfl rfl Tryz.func238 (by kernel_rfl) rfl #[.int .i64 a0] rfl (by (try simp only [List.map_toArray,List.map_cons,List.map_nil]);first|done|rfl|(simp only [List.length_drop,List.length_take];rfl)) ?_;(with_reducible refine (almanackerref03_Right.calls a0 false _ A2.out).mono ?_);rintro e w' ⟨rfl,⟨nd,rfl⟩⟩;refine ⟨_,rfl,?_⟩))
  go_ret2
  exact ⟨by first | rfl | (simp; done) | (simp [*]; done), by repeat (first | exact Drawn0.refl _ | apply Drawn0.step)⟩

def almanackerref01_Down.f (a0 : Int) (a1 : Int) : Option (Int) := if a1 = 0 then (none) else (if (Int.tmod a0 a1) < 0 then (some (wrap64 ((wrap64 (Int.tdiv a0 a1)) - 1))) else (some (wrap64 (Int.tdiv a0 a1))))
set_option maxHeartbeats 8000000 in
set_option maxRecDepth 100000 in
theorem almanackerref01_Down.calls (a0 : Int) (a1 : Int) (r : Int) (w : World) (h : almanackerref01_Down.f a0 a1 = some r) :
    Calls Tryz.prog 165 #[.int .i64 a0, .int .i64 a1] w fun e w' => e = .returned (.int .i64 r) ∧ Drawn0 w w' := by
  have H : (if a1 = 0 then (none) else (if (Int.tmod a0 a1) < 0 then (some (wrap64 ((wrap64 (Int.tdiv a0 a1)) - 1))) else (some (wrap64 (Int.tdiv a0 a1))))) = some r := h
  clear h
  by_cases c3 : a1 = 0
  · rw [if_pos c3] at H
    exact absurd H (by simp)
  · rw [if_neg c3] at H
    have c3b0 : (a1 == 0) = false := zz27.mpr c3
    have c3b1 : (a1 != 0) = true := zz28.mpr c3
    by_cases c4 : (Int.tmod a0 a1) < 0
    · rw [if_pos c4] at H
      have c4b0 : decide ((Int.tmod a0 a1) < 0) = true := decide_eq_true c4
      clear c4
      obtain rfl := Option.some.inj H
      go_enter Tryz.func165, Tryz.ntmps165
      go_wp2
      go_ret
      exact ⟨by first | rfl | (simp; done) | (simp [*]; done), by repeat (first | exact Drawn0.refl _ | apply Drawn0.step)⟩
    · rw [if_neg c4] at H
      have c4b0 : decide ((Int.tmod a0 a1) < 0) = false := decide_eq_false c4
      clear c4
      obtain rfl := Option.some.inj H
      go_enter Tryz.func165, Tryz.ntmps165
      go_wp2
      go_ret
      exact ⟨by first | rfl | (simp; done) | (simp [*]; done), by repeat (first | exact Drawn0.refl _ | apply Drawn0.step)⟩

def almanackerref03_Before.f (a0 : Int) : Option (Int × Int) := (almanackerref03_Right.f a0).bind fun t215 => (if t215 = true then ((almanackerref01_Down.f (wrap64 ((wrap64 (235 * a0)) - 234)) 19).bind fun t216 => (some (t216, 0))) else (some (0, 2)))
set_option maxHeartbeats 8000000 in
set_option maxRecDepth 100000 in
theorem almanackerref03_Before.calls (a0 : Int) (r1 : Int) (r2 : Int) (w : World) (h : almanackerref03_Before.f a0 = some (r1, r2)) :
  Calls Tryz.prog 197 #[.int .i64 a0] w fun e w' => e = .returned (.tuple #[.int .i64 r1, .int .i64 r2]) ∧ Drawn0 w w' := by
 have H : ((almanackerref03_Right.f a0).bind fun t215=>(if t215 = true then ((almanackerref01_Down.f (wrap64 ((wrap64 (235 * a0)) - 234)) 19).bind fun t216=>(some (t216,0))) else (some (0,2)))) = some (r1,r2):=h
 clear h
 replace H := zz14.mp H
 obtain ⟨t215, A20, H⟩ := H
 replace H : (if t215 = true then ((almanackerref01_Down.f (wrap64 ((wrap64 (235 * a0)) - 234)) 19).bind fun t216 => (some (t216, 0))) else (some (0, 2))) = some (r1, r2) := H
 have A2 := zz00 A20
 clear A20
 by_cases c3 : t215 = true
 ·
  subst c3
  have H1 : ((almanackerref01_Down.f (wrap64 ((wrap64 (235 * a0)) - 234)) 19).bind fun t216 => (some (t216, 0))) = some (r1, r2) := by rw [if_pos rfl] at H; exact H
  clear H
  have H := H1
  clear H1
  replace H := zz14.mp H
  obtain ⟨t216, A40, H⟩ := H
  replace H : (some (t216, 0)) = some (r1, r2) := H
  have A4 := zz00 A40
  clear A40
  simp only [zz15, zz16] at H
  obtain ⟨rfl, rfl⟩ := H
  go_enter Tryz.func197, Tryz.ntmps197
  go_wp2_with (first|((with_reducible refine zz23 (f:=238) rfl ?_);refine zz25 (some 5) rfl rfl Tryz.func238 (by kernel_rfl) rfl #[.int .i64 a0] rfl (by (try simp only [List.map_toArray,List.map_cons,List.map_nil]);first|done|rfl|(simp only [List.length_drop,List.length_take];rfl)) ?_;(with_reducible refine (almanackerref03_Right.calls a0 true _ A2.out).mono ?_);rintro e w' ⟨rfl,⟨nd,rfl⟩⟩;refine ⟨_,rfl,?_⟩)|((with_reducible refine zz23 (f:=165) rfl ?_);refine zz25 (some 10) rfl rfl Tryz.func165 (by kernel_rfl) rfl #[.int .i64 (wrap64 ((wrap64 (235 * a0)) - 234)),.int .i64 19] rfl (by (try simp only [List.map_toArray,List.map_cons,List.map_nil]);first|done|rfl|(simp only [List.length_drop,List.length_take];rfl)) ?_;(with_reducible refine (almanackerref01_Down.calls (wrap64 ((wrap64 (235 * a0)) - 234)) 19 t216 _ A4.out).mono ?_);rintro e w' ⟨rfl,⟨nd,rfl⟩⟩;refine ⟨_,rfl,?_⟩))
  go_ret2
  exact ⟨by first | rfl | (simp; done) | (simp [*]; done), by repeat (first | exact Drawn0.refl _ | apply Drawn0.step)⟩
 ·
  replace c3 := zz32.mpr c3
  subst c3
  have H1 : (some (0, 2)) = some (r1, r2) := by rw [if_neg (show ¬ (false = true) by decide)] at H; exact H
  clear H
  have H := H1
  clear H1
  simp only [zz15, zz16] at H
  obtain ⟨rfl, rfl⟩ := H
  go_enter Tryz.func197, Tryz.ntmps197
  go_wp2_with (first|((with_reducible refine zz23 (f:=238) rfl ?_);refine zz25 (some 5) rfl rfl Tryz.func238 (by kernel_rfl) rfl #[.int .i64 a0] rfl (by (try simp only [List.map_toArray,List.map_cons,List.map_nil]);first|done|rfl|(simp only [List.length_drop,List.length_take];rfl)) ?_;(with_reducible refine (almanackerref03_Right.calls a0 false _ A2.out).mono ?_);rintro e w' ⟨rfl,⟨nd,rfl⟩⟩;refine ⟨_,rfl,?_⟩))
  go_ret2
  exact ⟨by first | rfl | (simp; done) | (simp [*]; done), by repeat (first | exact Drawn0.refl _ | apply Drawn0.step)⟩

end Go.Proofs.YtflpddhoiafhcaaGreatDoor.R
end
