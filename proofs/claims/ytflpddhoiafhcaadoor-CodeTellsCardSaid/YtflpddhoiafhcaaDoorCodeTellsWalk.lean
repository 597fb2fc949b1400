/- The walk of 'almanackerlaw09.CodeTells': it returns true. -/
import Derived.Test.YtflpddhoiafhcaaDoorCodeRefs
import Derived.Deep.RegionHeld3
import Derived.Deep.DeepCutAuto
import Derived.IntWalk
import Derived.Deep.Heap
import Derived.RegionTactic
namespace Go.Proofs.YtflpddhoiafhcaaDoor.C
open Go.RowKit Go.Proofs.YtflpddhoiafhcaaDoorW.PrintWords Go.Proofs.YtflpddhoiafhcaaDoorW.PrintLast Go.Proofs.YtflpddhoiafhcaaDoorW.PrintMore
attribute [local go_sem] max2_int min2_int max_two min_two max_three min_three max_four min_four
attribute [local go_sem high] eqA23
set_option linter.unusedVariables false
/-- What the walk holds of its world: elder memory stands; the variables read as laid; the two codes lie in blocks of this call. -/
structure TBox (w : World) (ga gb : Nat) (n : Int) (l : Bool) (n2 : Int) (l2 : Bool) (W : World) : Prop where
  below : Below w.heap.size w W
  glob : GlobS W
  ba : W.heap[ga]? = some (.cells #[.int .i64 n, .bool l] 23)
  bb : W.heap[gb]? = some (.cells #[.int .i64 n2, .bool l2] 23)
  la : w.heap.size ≤ ga
  lb : w.heap.size ≤ gb
theorem TBox.step {w : World} {ga gb : Nat} {n : Int} {l : Bool} {n2 : Int} {l2 : Bool} {W W' : World} (h : TBox w ga gb n l n2 l2 W) (hb : Below W.heap.size W W') : TBox w ga gb n l n2 l2 W' :=
  ⟨h.below.trans (hb.mono h.below.size), h.glob.below hb, blk_below h.ba hb, blk_below h.bb hb, h.la, h.lb⟩
theorem TBox.begin1 {w : World} (HG : GlobS w) (n : Int) (l : Bool) (n2 : Int) (l2 : Bool) (o : Obj) : TBox w (w.heap.size + 1) (w.heap.size + 1 + 1) n l n2 l2 (((w.alloc o).alloc (.cells #[.int .i64 n, .bool l] 23)).alloc (.cells #[.int .i64 n2, .bool l2] 23)).drew := by
  have hb : Below w.heap.size w (((w.alloc o).alloc (.cells #[.int .i64 n, .bool l] 23)).alloc (.cells #[.int .i64 n2, .bool l2] 23)).drew := below_drew (below_alloc (below_alloc (below_alloc (Below.refl _ _) _) _) _)
  have e1 : (w.alloc o).heap.size = w.heap.size + 1 := Array.size_push _
  have e2 : ((w.alloc o).alloc (.cells #[.int .i64 n, .bool l] 23)).heap.size = w.heap.size + 1 + 1 := (Array.size_push _).trans (by rw [e1])
  refine ⟨hb, HG.below hb, blk_drew ?_, blk_drew ?_, by omega, by omega⟩
  · rw [← e1]; exact blk_alloc (blk_new _ _) _
  · rw [← e2]; exact blk_new _ _
theorem TBox.begin2 {w : World} (HG : GlobS w) (n : Int) (l : Bool) (n2 : Int) (l2 : Bool) (o : Obj) : TBox w (w.heap.size + 1 + 1) (w.heap.size + 1) n l n2 l2 (((w.alloc o).alloc (.cells #[.int .i64 n2, .bool l2] 23)).alloc (.cells #[.int .i64 n, .bool l] 23)).drew := by
  obtain ⟨h1, h2, h3, h4, h5, h6⟩ := TBox.begin1 HG n2 l2 n l o
  exact ⟨h1, h2, h4, h3, h6, h5⟩
/-- .. and the two codes read. -/
structure DBox (w : World) (ga gb gc gd : Nat) (n : Int) (l : Bool) (n2 : Int) (l2 : Bool) (c : Int) (cl : Bool) (W : World) : Prop where
  t : TBox w ga gb n l n2 l2 W
  bc : W.heap[gc]? = some (.cells #[.int .i64 c, .bool cl] 23)
  bd : W.heap[gd]? = some (.cells #[.int .i64 c, .bool cl] 23)
theorem DBox.step {w : World} {ga gb gc gd : Nat} {n : Int} {l : Bool} {n2 : Int} {l2 : Bool} {c : Int} {cl : Bool} {W W' : World} (h : DBox w ga gb gc gd n l n2 l2 c cl W) (hb : Below W.heap.size W W') : DBox w ga gb gc gd n l n2 l2 c cl W' :=
  ⟨h.t.step hb, blk_below h.bc hb, blk_below h.bd hb⟩
set_option maxHeartbeats 8000000 in
set_option maxRecDepth 100000 in
theorem codeTells_walk (n : Int) (l : Bool) (n2 : Int) (l2 : Bool) (s : ByteArray) (m : Int) (hm0 : -9223372036854775808 ≤ m) (hm1 : m ≤ 9223372036854775807) (w : World) (HG : GlobS w) :
    Calls Tryd.prog 3 #[.agg #[.int .i64 n, .bool l, .int .i64 n2, .bool l2, .string s, .int .i64 m]] w fun e w' => e = .returned (.bool true) ∧ Below w.heap.size w w' := by
  have HW : Aside0 (∀ W, GlobS W → Calls Tryd.prog 13 #[] W fun e w' => e = .returned (.bool true) ∧ Below W.heap.size W w') := ⟨fun W hW => almanackerlaw09_awake.calls 3 true W hW awake09⟩
  have HB1 := Aside0.mk (TBox.begin1 HG n l n2 l2 (.cells #[.int .i64 n, .bool l, .int .i64 n2, .bool l2, .string s, .int .i64 m] 25))
  have HB2 := Aside0.mk (TBox.begin2 HG n l n2 l2 (.cells #[.int .i64 n, .bool l, .int .i64 n2, .bool l2, .string s, .int .i64 m] 25))
  clear HG
  go_enter Tryd.func3, Tryd.ntmps3
  go_upto_region 1 with fail
  go_cut [3, 4, 5, 6] (fun v3 v4 v5 v6 wc => ∃ ga gb, v3 = .pointer (some ⟨ga, 0, none⟩) ∧ v4 = .pointer (some ⟨gb, 0, none⟩) ∧ v5 = .string s ∧ v6 = .int .i64 m ∧ Aside0 (TBox w ga gb n l n2 l2 wc))
  case first =>
    go_region
    · go_wp2_with fail
      go_meet
      case rel => exact ⟨_, _, rfl, rfl, rfl, rfl, HB1⟩
    · go_wp2_with fail
      go_meet
      case rel => exact ⟨_, _, rfl, rfl, rfl, rfl, HB2⟩
  case rest =>
    obtain ⟨ga, gb, rfl, rfl, rfl, rfl, HT⟩ := hcut
    by_cases hs : 100 < s.size
    · have hd : decide (100 < (s.size : Int)) = true := by simp; omega
      go_wp2_with fail
      refine (HW.out _ HT.out.glob).mono ?_
      rintro e W1 ⟨rfl, hb⟩
      have HT1 := Aside0.mk (HT.out.step hb)
      clear hb
      go_wp2_with fail
      go_ret
      exact ⟨rfl, HT1.out.below⟩
    · have hd : decide (100 < (s.size : Int)) = false := by simp; omega
      have hz0 : wc.cell? ⟨ga, 0, none⟩ = some (.int .i64 n) := (blk_cell HT.out.ba 0).trans rfl
      have hz1 : wc.cell? ⟨ga, 1, none⟩ = some (.bool l) := (blk_cell HT.out.ba 1).trans rfl
      have HX : Aside0 (∀ W, GlobS W → Calls Tryd.prog 14 #[.agg #[.int .i64 n, .bool l]] W fun e w' => e = .returned (.tuple #[.string (Cal.codeText n l).1, .bool (Cal.codeText n l).2]) ∧ Below W.heap.size W w') := ⟨fun W hW => code_Text.calls n l _ _ W hW rfl⟩
      have HY : Aside0 (∀ W, Calls Tryd.prog 15 #[.agg #[.int .i64 n, .bool l]] W fun e w' => e = .returned (.tuple #[.string (Cal.codeText n l).1, .bool (Cal.codeText n l).2]) ∧ Below W.heap.size W w') := ⟨fun W => almanackerref09_Text.calls n l _ _ W rfl⟩
      have HX2 : Aside0 (∀ W, GlobS W → Calls Tryd.prog 16 #[.string s] W fun e w' => e = .returned (.tuple #[.agg #[.int .i64 (Cal.codeRead s).1, .bool (Cal.codeRead s).2.1], .bool (Cal.codeRead s).2.2]) ∧ Below W.heap.size W w') := ⟨fun W hW => code_Read.calls s _ _ _ W hW (by rw [code_Read.f, if_pos (by omega)])⟩
      have HY2 : Aside0 (∀ W, Calls Tryd.prog 17 #[.string s] W fun e w' => e = .returned (.tuple #[.agg #[.int .i64 (Cal.codeRead s).1, .bool (Cal.codeRead s).2.1], .bool (Cal.codeRead s).2.2]) ∧ Below W.heap.size W w') := ⟨fun W => almanackerref09_Read.calls 14 s _ _ _ W (refRead s)⟩
      obtain ⟨t, p, ht⟩ : ∃ t p, Cal.codeText n l = (t, p) := ⟨_, _, rfl⟩
      obtain ⟨c, cl, v, hc⟩ : ∃ c cl v, Cal.codeRead s = (c, cl, v) := ⟨_, _, _, rfl⟩
      rw [ht] at HX HY
      rw [hc] at HX2 HY2
      clear ht hc
      go_wp2_with fail
      refine (HX.out _ HT.out.glob).mono ?_
      rintro e W1 ⟨rfl, hb⟩
      have HT1 := Aside0.mk (HT.out.step hb)
      have hy0 : W1.cell? ⟨ga, 0, none⟩ = some (.int .i64 n) := (blk_cell HT1.out.ba 0).trans rfl
      have hy1 : W1.cell? ⟨ga, 1, none⟩ = some (.bool l) := (blk_cell HT1.out.ba 1).trans rfl
      clear hb hz0 hz1
      go_wp2_with fail
      refine (HY.out _).mono ?_
      rintro e W2 ⟨rfl, hb⟩
      have HT2 := Aside0.mk (HT1.out.step hb)
      clear hb hy0 hy1
      go_wp2_with fail
      refine (HX2.out _ HT2.out.glob).mono ?_
      rintro e W3 ⟨rfl, hb⟩
      have HT3 := Aside0.mk (HT2.out.step hb)
      clear hb
      go_wp2_with fail
      have hb3 := below_alloc (Below.refl W3.heap.size W3) (.cells #[.int .i64 c, .bool cl] 23)
      refine (HY2.out _).mono ?_
      rintro e W4 ⟨rfl, hb⟩
      have HT4 := Aside0.mk ((HT3.out.step hb3).step hb)
      have HC4 := Aside0.mk (blk_below (blk_new W3 (.cells #[.int .i64 c, .bool cl] 23)) hb)
      have HT5 : Aside0 (DBox w ga gb W3.heap.size W4.heap.size n l n2 l2 c cl (W4.alloc (.cells #[.int .i64 c, .bool cl] 23))) := ⟨⟨HT4.out.step (below_alloc (Below.refl _ _) _), blk_alloc HC4.out _, blk_new _ _⟩⟩
      generalize W3.heap.size = gc at *
      clear hb hb3 HX HY HX2 HY2 HT HT1 HT2 HT3 HT4 HC4 HB1 HB2
      have HR1 : Aside0 (∀ W, Calls Tryd.prog 18 #[.agg #[.int .i64 n, .bool l]] W fun e w' => e = .returned (.bool (Cal.codeOk n l)) ∧ Below W.heap.size W w') := ⟨fun W => code_Right.calls n l _ W (code_Right_ok n l)⟩
      have HR2 : Aside0 (∀ W, Calls Tryd.prog 19 #[.agg #[.int .i64 n, .bool l]] W fun e w' => e = .returned (.bool (Cal.codeOk n l)) ∧ Below W.heap.size W w') := ⟨fun W => almanackerref09_Right.calls n l _ W (refRight_ok n l)⟩
      obtain ⟨ls, hl1, hl2⟩ := less_same n l n2 l2
      have HL1 : Aside0 (∀ W, Calls Tryd.prog 20 #[.agg #[.int .i64 n, .bool l], .agg #[.int .i64 n2, .bool l2]] W fun e w' => e = .returned (.bool ls) ∧ Below W.heap.size W w') := ⟨fun W => code_Less.calls n l n2 l2 _ W hl1⟩
      have HL2 : Aside0 (∀ W, Calls Tryd.prog 21 #[.agg #[.int .i64 n, .bool l], .agg #[.int .i64 n2, .bool l2]] W fun e w' => e = .returned (.bool ls) ∧ Below W.heap.size W w') := ⟨fun W => almanackerref09_Less.calls n l n2 l2 _ W hl2⟩
      clear hl1 hl2
      generalize Cal.codeOk n l = rt at HR1 HR2
      go_upto_region 8 with fail
      go_cut [89] (fun v89 wd => v89 = .bool false ∧ Aside0 (DBox w ga gb gc W4.heap.size n l n2 l2 c cl wd))
      case first =>
        go_region_held3 (fun V => DBox w ga gb gc W4.heap.size n l n2 l2 c cl V ∧ V.cell? ⟨ga, 0, none⟩ = some (.int .i64 n) ∧ V.cell? ⟨ga, 1, none⟩ = some (.bool l) ∧ V.cell? ⟨gb, 0, none⟩ = some (.int .i64 n2) ∧ V.cell? ⟨gb, 1, none⟩ = some (.bool l2) ∧ V.cell? ⟨gc, 0, none⟩ = some (.int .i64 c) ∧ V.cell? ⟨gc, 1, none⟩ = some (.bool cl) ∧ V.cell? ⟨W4.heap.size, 0, none⟩ = some (.int .i64 c) ∧ V.cell? ⟨W4.heap.size, 1, none⟩ = some (.bool cl)) (first | (have hz_ := HT5.out.step (below_drew (Below.refl _ _)); exact ⟨hz_, blk_cell hz_.t.ba 0, blk_cell hz_.t.ba 1, blk_cell hz_.t.bb 0, blk_cell hz_.t.bb 1, blk_cell hz_.bc 0, blk_cell hz_.bc 1, blk_cell hz_.bd 0, blk_cell hz_.bd 1⟩) | (have hz_ := DBox.step (And.left (by assumption)) hb; exact ⟨hz_, blk_cell hz_.t.ba 0, blk_cell hz_.t.ba 1, blk_cell hz_.t.bb 0, blk_cell hz_.t.bb 1, blk_cell hz_.bc 0, blk_cell hz_.bc 1, blk_cell hz_.bd 0, blk_cell hz_.bd 1⟩)) (first | (go_at_call 18; refine (HR1.out _).mono ?_; rintro e w' ⟨rfl, hb⟩) | (go_at_call 19; refine (HR2.out _).mono ?_; rintro e w' ⟨rfl, hb⟩) | (go_at_call 20; refine (HL1.out _).mono ?_; rintro e w' ⟨rfl, hb⟩) | (go_at_call 21; refine (HL2.out _).mono ?_; rintro e w' ⟨rfl, hb⟩))
        have HF := Aside0.mk (And.left (‹DBox w ga gb gc W4.heap.size n l n2 l2 c cl _ ∧ _›))
        go_wp2_with fail
        go_meet
        case rel => exact ⟨rfl, HF⟩
      case rest =>
        obtain ⟨rfl, HT6⟩ := hcut
        have HT7 := Aside0.mk HT6.out.t
        clear HT5 HT6 HR1 HR2 HL1 HL2
        go_wp2_with fail
        go_loopw [15] (fun s15 wr => ∃ i : Nat, i ≤ 2 ∧ s15 = .int .i64 i ∧ Aside0 (TBox w ga gb n l n2 l2 wr)) (fun s15 _ => 2 - (intOf s15).toNat)
        case atStart => exact ⟨0, by omega, rfl, HT7⟩
        case round =>
          obtain ⟨i, hi, rfl, HT⟩ := hrel
          rcases (by omega : i = 0 ∨ i = 1 ∨ i = 2) with rfl | rfl | rfl
          · obtain ⟨⟨x1, x2, x3⟩, ho1, ho2⟩ := of_same false m hm0 hm1
            obtain ⟨⟨y1, y2⟩, hp1, hp2⟩ := place_same false n l
            have HO1 : Aside0 (∀ W, Calls Tryd.prog 22 #[.bool false, .int .i64 m] W fun e w' => e = .returned (.tuple #[.agg #[.int .i64 x1, .bool x2], .bool x3]) ∧ Below W.heap.size W w') := ⟨fun W => code_Of.calls 2 false m x1 x2 x3 W ho1⟩
            have HO2 : Aside0 (∀ W, Calls Tryd.prog 23 #[.bool false, .int .i64 m] W fun e w' => e = .returned (.tuple #[.agg #[.int .i64 x1, .bool x2], .bool x3]) ∧ Below W.heap.size W w') := ⟨fun W => almanackerref09_Of.calls 14 false m x1 x2 x3 W ho2⟩
            have HP1 : Aside0 (∀ W, Calls Tryd.prog 24 #[.bool false, .agg #[.int .i64 n, .bool l]] W fun e w' => e = .returned (.tuple #[.int .i64 y1, .bool y2]) ∧ Below W.heap.size W w') := ⟨fun W => code_Place.calls 2 false n l y1 y2 W hp1⟩
            have HP2 : Aside0 (∀ W, Calls Tryd.prog 25 #[.bool false, .agg #[.int .i64 n, .bool l]] W fun e w' => e = .returned (.tuple #[.int .i64 y1, .bool y2]) ∧ Below W.heap.size W w') := ⟨fun W => almanackerref09_Place.calls 14 false n l y1 y2 W hp2⟩
            clear ho1 ho2 hp1 hp2 hi
            go_wp2_with fail
            refine (HO1.out _).mono ?_
            rintro e W1 ⟨rfl, hb⟩
            have HT1 := Aside0.mk (HT.out.step hb)
            clear hb
            go_wp2_with fail
            have hb3 := below_alloc (Below.refl W1.heap.size W1) (.cells #[.int .i64 x1, .bool x2] 23)
            refine (HO2.out _).mono ?_
            rintro e W2 ⟨rfl, hb⟩
            have HT2 := Aside0.mk ((HT1.out.step hb3).step hb)
            have HC2 := Aside0.mk (blk_below (blk_new W1 (.cells #[.int .i64 x1, .bool x2] 23)) hb)
            have HD2 : Aside0 (DBox w ga gb W1.heap.size W2.heap.size n l n2 l2 x1 x2 (W2.alloc (.cells #[.int .i64 x1, .bool x2] 23))) := ⟨⟨HT2.out.step (below_alloc (Below.refl _ _) _), blk_alloc HC2.out _, blk_new _ _⟩⟩
            clear hb hb3
            have hz0 := blk_cell HD2.out.t.ba 0
            have hz1 := blk_cell HD2.out.t.ba 1
            go_wp2_with fail
            refine (HP1.out _).mono ?_
            rintro e W3 ⟨rfl, hb⟩
            have HD3 := Aside0.mk (HD2.out.step hb)
            have hz0 : W3.cell? ⟨ga, 0, none⟩ = some (.int .i64 n) := blk_cell HD3.out.t.ba 0
            have hz1 : W3.cell? ⟨ga, 1, none⟩ = some (.bool l) := blk_cell HD3.out.t.ba 1
            clear hb
            go_wp2_with fail
            refine (HP2.out _).mono ?_
            rintro e W5 ⟨rfl, hb⟩
            have HD4 := Aside0.mk (HD3.out.step hb)
            have hc0 : W5.cell? ⟨W1.heap.size, 0, none⟩ = some (.int .i64 x1) := blk_cell HD4.out.bc 0
            have hc1 : W5.cell? ⟨W1.heap.size, 1, none⟩ = some (.bool x2) := blk_cell HD4.out.bc 1
            have hd0 : W5.cell? ⟨W2.heap.size, 0, none⟩ = some (.int .i64 x1) := blk_cell HD4.out.bd 0
            have hd1 : W5.cell? ⟨W2.heap.size, 1, none⟩ = some (.bool x2) := blk_cell HD4.out.bd 1
            have HT5 := Aside0.mk HD4.out.t
            clear hb hz0 hz1
            go_wp2_with fail
            exact ⟨⟨1, by omega, rfl, HT5⟩, by simp [intOf]⟩
          · obtain ⟨⟨x1, x2, x3⟩, ho1, ho2⟩ := of_same true m hm0 hm1
            obtain ⟨⟨y1, y2⟩, hp1, hp2⟩ := place_same true n l
            have HO1 : Aside0 (∀ W, Calls Tryd.prog 22 #[.bool true, .int .i64 m] W fun e w' => e = .returned (.tuple #[.agg #[.int .i64 x1, .bool x2], .bool x3]) ∧ Below W.heap.size W w') := ⟨fun W => code_Of.calls 2 true m x1 x2 x3 W ho1⟩
            have HO2 : Aside0 (∀ W, Calls Tryd.prog 23 #[.bool true, .int .i64 m] W fun e w' => e = .returned (.tuple #[.agg #[.int .i64 x1, .bool x2], .bool x3]) ∧ Below W.heap.size W w') := ⟨fun W => almanackerref09_Of.calls 14 true m x1 x2 x3 W ho2⟩
            have HP1 : Aside0 (∀ W, Calls Tryd.prog 24 #[.bool true, .agg #[.int .i64 n, .bool l]] W fun e w' => e = .returned (.tuple #[.int .i64 y1, .bool y2]) ∧ Below W.heap.size W w') := ⟨fun W => code_Place.calls 2 true n l y1 y2 W hp1⟩
            have HP2 : Aside0 (∀ W, Calls Tryd.prog 25 #[.bool true, .agg #[.int .i64 n, .bool l]] W fun e w' => e = .returned (.tuple #[.int .i64 y1, .bool y2]) ∧ Below W.heap.size W w') := ⟨fun W => almanackerref09_Place.calls 14 true n l y1 y2 W hp2⟩
            clear ho1 ho2 hp1 hp2 hi
            go_wp2_with fail
            refine (HO1.out _).mono ?_
            rintro e W1 ⟨rfl, hb⟩
            have HT1 := Aside0.mk (HT.out.step hb)
            clear hb
            go_wp2_with fail
            have hb3 := below_alloc (Below.refl W1.heap.size W1) (.cells #[.int .i64 x1, .bool x2] 23)
            refine (HO2.out _).mono ?_
            rintro e W2 ⟨rfl, hb⟩
            have HT2 := Aside0.mk ((HT1.out.step hb3).step hb)
            have HC2 := Aside0.mk (blk_below (blk_new W1 (.cells #[.int .i64 x1, .bool x2] 23)) hb)
            have HD2 : Aside0 (DBox w ga gb W1.heap.size W2.heap.size n l n2 l2 x1 x2 (W2.alloc (.cells #[.int .i64 x1, .bool x2] 23))) := ⟨⟨HT2.out.step (below_alloc (Below.refl _ _) _), blk_alloc HC2.out _, blk_new _ _⟩⟩
            clear hb hb3
            have hz0 := blk_cell HD2.out.t.ba 0
            have hz1 := blk_cell HD2.out.t.ba 1
            go_wp2_with fail
            refine (HP1.out _).mono ?_
            rintro e W3 ⟨rfl, hb⟩
            have HD3 := Aside0.mk (HD2.out.step hb)
            have hz0 : W3.cell? ⟨ga, 0, none⟩ = some (.int .i64 n) := blk_cell HD3.out.t.ba 0
            have hz1 : W3.cell? ⟨ga, 1, none⟩ = some (.bool l) := blk_cell HD3.out.t.ba 1
            clear hb
            go_wp2_with fail
            refine (HP2.out _).mono ?_
            rintro e W5 ⟨rfl, hb⟩
            have HD4 := Aside0.mk (HD3.out.step hb)
            have hc0 : W5.cell? ⟨W1.heap.size, 0, none⟩ = some (.int .i64 x1) := blk_cell HD4.out.bc 0
            have hc1 : W5.cell? ⟨W1.heap.size, 1, none⟩ = some (.bool x2) := blk_cell HD4.out.bc 1
            have hd0 : W5.cell? ⟨W2.heap.size, 0, none⟩ = some (.int .i64 x1) := blk_cell HD4.out.bd 0
            have hd1 : W5.cell? ⟨W2.heap.size, 1, none⟩ = some (.bool x2) := blk_cell HD4.out.bd 1
            have HT5 := Aside0.mk HD4.out.t
            clear hb hz0 hz1
            go_wp2_with fail
            exact ⟨⟨2, by omega, rfl, HT5⟩, by simp [intOf]⟩
          · go_wp2_with fail
            refine (HW.out _ HT.out.glob).mono ?_
            rintro e W1 ⟨rfl, hb⟩
            have HT1 := Aside0.mk (HT.out.step hb)
            clear hb
            go_wp2_with fail
            go_ret
            exact ⟨rfl, HT1.out.below⟩
end Go.Proofs.YtflpddhoiafhcaaDoor.C
