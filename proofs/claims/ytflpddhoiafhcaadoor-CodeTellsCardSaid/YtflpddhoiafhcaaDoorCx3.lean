-- Written by wip/hprint.py of this repo (holes typed by hand, all else by a program) over the seat YtflpddhoiafhcaaDoor.
import Derived.Test.YtflpddhoiafhcaaDoorCx0
namespace Go.Proofs.YtflpddhoiafhcaaDoor.C
open Go.RowKit Go.Proofs.YtflpddhoiafhcaaDoorW.PrintWords Go.Proofs.YtflpddhoiafhcaaDoorW.PrintLast Go.Proofs.YtflpddhoiafhcaaDoorW.PrintMore
attribute [local go_sem] max2_int min2_int max_two min_two max_three min_three max_four min_four   -- for this text's walks alone
set_option linter.unusedVariables false
set_option linter.unusedSimpArgs false

/-! ### almanackerref09_Right: function 19 -/
def almanackerref09_Right.f (a0_0 : Int) (a0_1 : Bool) : Option (Bool) := if a0_0 ≥ 1 then (if a0_0 ≤ 12 then (if a0_1 = true then (some (a0_0 == 5)) else (some true)) else (some false)) else (some false)
set_option maxHeartbeats 8000000 in
set_option maxRecDepth 100000 in
theorem almanackerref09_Right.calls (a0_0 : Int) (a0_1 : Bool) (r : Bool) (w : World) (h : almanackerref09_Right.f a0_0 a0_1 = some r) :
    Calls Tryd.prog 19 #[.agg #[.int .i64 a0_0, .bool a0_1]] w fun e w' => e = .returned (.bool r) ∧ Below w.heap.size w w' := by
  have hu23 := Tryd.underlying23
  have HB := Aside0.mk (Below.refl w.heap.size w)
  have H : (if a0_0 ≥ 1 then (if a0_0 ≤ 12 then (if a0_1 = true then (some (a0_0 == 5)) else (some true)) else (some false)) else (some false)) = some r := h
  clear h
  by_cases c2 : a0_0 ≥ 1
  · rw [if_pos c2] at H
    have c2b0 : decide (1 ≤ a0_0) = true := decide_eq_true c2
    clear c2
    by_cases c3 : a0_0 ≤ 12
    · rw [if_pos c3] at H
      have c3b0 : decide (a0_0 ≤ 12) = true := decide_eq_true c3
      clear c3
      by_cases c4 : a0_1 = true
      · subst c4
        have H1 : (some (a0_0 == 5)) = some r := by rw [if_pos rfl] at H; exact H
        clear H
        have H := H1
        clear H1
        obtain rfl := Option.some.inj H
        go_enter Tryd.func19, Tryd.ntmps19
        go_wp2_with (first | ((with_reducible refine gate_dst (N := 1) rfl ?_); refine box_event ?hg (N := 1) ?hd (cs := #[.int .i64 a0_0, .bool true]) (t := 23) ?hr ?_; (case hd => rfl); (case hg => rfl); (case hr => first | (go_simp; done) | (go_simp; rfl)); intro gb112 hg w5 hbox hb; have n0_ := Aside0.mk (below_step (by repeat (first | (with_reducible first | exact HB.out | apply below_alloc | apply pw_below_drewN | apply below_drew1) | exact HB.out)) hb); have n1_ := Aside0.mk (hbox); have n2_ := Aside0.mk ((by rw [hg]; exact (below_size (by repeat (first | (with_reducible first | exact HB.out | apply below_alloc | apply pw_below_drewN | apply below_drew1) | exact HB.out))) : w.heap.size ≤ gb112)); have n3_ := Aside0.mk ((by rw [hg]; exact (below_size (by repeat (first | (with_reducible first | exact HB.out | apply below_alloc | apply pw_below_drewN | apply below_drew1) | exact HB.out))) : w.heap.size ≤ gb112)); clear HB; have HB := n0_; have BK112 := n1_; have GW112 := n2_; have GE112 := n3_; clear n0_ n1_ n2_ n3_; clear hb hbox hg; have hcz6_0 : w5.cell? ⟨gb112, 0, none⟩ = some (.int .i64 a0_0) := (blk_cell BK112.out 0).trans rfl; have hcz6_1 : w5.cell? ⟨gb112, 1, none⟩ = some (.bool true) := (blk_cell BK112.out 1).trans rfl; have hfz6_0 := blk_frozen BK112.out 0; have hfz6_1 := blk_frozen BK112.out 1))
        go_ret
        exact ⟨by first | rfl | (simp [errW_none, errW_some] <;> rfl) | (simp [*, errW_none, errW_some] <;> rfl), by repeat (first | (with_reducible first | exact HB.out | apply below_alloc | apply pw_below_drewN | apply below_drew1 | refine below_set ?_ GE112.out) | exact HB.out)⟩
      · replace c4 := Bool.eq_false_iff.mpr c4
        subst c4
        have H1 : (some true) = some r := by rw [if_neg (show ¬ (false = true) by decide)] at H; exact H
        clear H
        have H := H1
        clear H1
        obtain rfl := Option.some.inj H
        go_enter Tryd.func19, Tryd.ntmps19
        go_wp2_with (first | ((with_reducible refine gate_dst (N := 1) rfl ?_); refine box_event ?hg (N := 1) ?hd (cs := #[.int .i64 a0_0, .bool false]) (t := 23) ?hr ?_; (case hd => rfl); (case hg => rfl); (case hr => first | (go_simp; done) | (go_simp; rfl)); intro gb112 hg w7 hbox hb; have n0_ := Aside0.mk (below_step (by repeat (first | (with_reducible first | exact HB.out | apply below_alloc | apply pw_below_drewN | apply below_drew1) | exact HB.out)) hb); have n1_ := Aside0.mk (hbox); have n2_ := Aside0.mk ((by rw [hg]; exact (below_size (by repeat (first | (with_reducible first | exact HB.out | apply below_alloc | apply pw_below_drewN | apply below_drew1) | exact HB.out))) : w.heap.size ≤ gb112)); have n3_ := Aside0.mk ((by rw [hg]; exact (below_size (by repeat (first | (with_reducible first | exact HB.out | apply below_alloc | apply pw_below_drewN | apply below_drew1) | exact HB.out))) : w.heap.size ≤ gb112)); clear HB; have HB := n0_; have BK112 := n1_; have GW112 := n2_; have GE112 := n3_; clear n0_ n1_ n2_ n3_; clear hb hbox hg; have hcz8_0 : w7.cell? ⟨gb112, 0, none⟩ = some (.int .i64 a0_0) := (blk_cell BK112.out 0).trans rfl; have hcz8_1 : w7.cell? ⟨gb112, 1, none⟩ = some (.bool false) := (blk_cell BK112.out 1).trans rfl; have hfz8_0 := blk_frozen BK112.out 0; have hfz8_1 := blk_frozen BK112.out 1))
        go_ret
        exact ⟨by first | rfl | (simp [errW_none, errW_some] <;> rfl) | (simp [*, errW_none, errW_some] <;> rfl), by repeat (first | (with_reducible first | exact HB.out | apply below_alloc | apply pw_below_drewN | apply below_drew1 | refine below_set ?_ GE112.out) | exact HB.out)⟩
    · rw [if_neg c3] at H
      have c3b0 : decide (a0_0 ≤ 12) = false := decide_eq_false c3
      clear c3
      obtain rfl := Option.some.inj H
      go_enter Tryd.func19, Tryd.ntmps19
      go_wp2_with (first | ((with_reducible refine gate_dst (N := 1) rfl ?_); refine box_event ?hg (N := 1) ?hd (cs := #[.int .i64 a0_0, .bool a0_1]) (t := 23) ?hr ?_; (case hd => rfl); (case hg => rfl); (case hr => first | (go_simp; done) | (go_simp; rfl)); intro gb112 hg w9 hbox hb; have n0_ := Aside0.mk (below_step (by repeat (first | (with_reducible first | exact HB.out | apply below_alloc | apply pw_below_drewN | apply below_drew1) | exact HB.out)) hb); have n1_ := Aside0.mk (hbox); have n2_ := Aside0.mk ((by rw [hg]; exact (below_size (by repeat (first | (with_reducible first | exact HB.out | apply below_alloc | apply pw_below_drewN | apply below_drew1) | exact HB.out))) : w.heap.size ≤ gb112)); have n3_ := Aside0.mk ((by rw [hg]; exact (below_size (by repeat (first | (with_reducible first | exact HB.out | apply below_alloc | apply pw_below_drewN | apply below_drew1) | exact HB.out))) : w.heap.size ≤ gb112)); clear HB; have HB := n0_; have BK112 := n1_; have GW112 := n2_; have GE112 := n3_; clear n0_ n1_ n2_ n3_; clear hb hbox hg; have hcz10_0 : w9.cell? ⟨gb112, 0, none⟩ = some (.int .i64 a0_0) := (blk_cell BK112.out 0).trans rfl; have hcz10_1 : w9.cell? ⟨gb112, 1, none⟩ = some (.bool a0_1) := (blk_cell BK112.out 1).trans rfl; have hfz10_0 := blk_frozen BK112.out 0; have hfz10_1 := blk_frozen BK112.out 1))
      go_ret
      exact ⟨by first | rfl | (simp [errW_none, errW_some] <;> rfl) | (simp [*, errW_none, errW_some] <;> rfl), by repeat (first | (with_reducible first | exact HB.out | apply below_alloc | apply pw_below_drewN | apply below_drew1 | refine below_set ?_ GE112.out) | exact HB.out)⟩
  · rw [if_neg c2] at H
    have c2b0 : decide (1 ≤ a0_0) = false := decide_eq_false c2
    clear c2
    obtain rfl := Option.some.inj H
    go_enter Tryd.func19, Tryd.ntmps19
    go_wp2_with (first | ((with_reducible refine gate_dst (N := 1) rfl ?_); refine box_event ?hg (N := 1) ?hd (cs := #[.int .i64 a0_0, .bool a0_1]) (t := 23) ?hr ?_; (case hd => rfl); (case hg => rfl); (case hr => first | (go_simp; done) | (go_simp; rfl)); intro gb112 hg w11 hbox hb; have n0_ := Aside0.mk (below_step (by repeat (first | (with_reducible first | exact HB.out | apply below_alloc | apply pw_below_drewN | apply below_drew1) | exact HB.out)) hb); have n1_ := Aside0.mk (hbox); have n2_ := Aside0.mk ((by rw [hg]; exact (below_size (by repeat (first | (with_reducible first | exact HB.out | apply below_alloc | apply pw_below_drewN | apply below_drew1) | exact HB.out))) : w.heap.size ≤ gb112)); have n3_ := Aside0.mk ((by rw [hg]; exact (below_size (by repeat (first | (with_reducible first | exact HB.out | apply below_alloc | apply pw_below_drewN | apply below_drew1) | exact HB.out))) : w.heap.size ≤ gb112)); clear HB; have HB := n0_; have BK112 := n1_; have GW112 := n2_; have GE112 := n3_; clear n0_ n1_ n2_ n3_; clear hb hbox hg; have hcz12_0 : w11.cell? ⟨gb112, 0, none⟩ = some (.int .i64 a0_0) := (blk_cell BK112.out 0).trans rfl; have hcz12_1 : w11.cell? ⟨gb112, 1, none⟩ = some (.bool a0_1) := (blk_cell BK112.out 1).trans rfl; have hfz12_0 := blk_frozen BK112.out 0; have hfz12_1 := blk_frozen BK112.out 1))
    go_ret
    exact ⟨by first | rfl | (simp [errW_none, errW_some] <;> rfl) | (simp [*, errW_none, errW_some] <;> rfl), by repeat (first | (with_reducible first | exact HB.out | apply below_alloc | apply pw_below_drewN | apply below_drew1 | refine below_set ?_ GE112.out) | exact HB.out)⟩

/-! ### almanackerref09_Text: function 15 -/
def almanackerref09_Text.f (a0_0 : Int) (a0_1 : Bool) : Option (ByteArray × Bool) := some (Cal.codeText a0_0 a0_1)
theorem refRight_ok (n : Int) (l : Bool) : almanackerref09_Right.f n l = some (Cal.codeOk n l) := by
  unfold almanackerref09_Right.f Cal.codeOk
  by_cases h1 : n ≥ 1 <;> by_cases h2 : n ≤ 12 <;> by_cases h3 : n = 5 <;> cases l <;> simp [h1, h2, h3] <;> omega
theorem conv2 (x y : UInt8) (W : World) :
    (convert 64 9 (.slice (some ⟨W.heap.size, 0, none⟩) 2 2)).run Tryd.prog (W.alloc (.cells #[.int .u8 (x.toNat : Int), .int .u8 (y.toNat : Int)] 5)) = .ok (.string ⟨#[x, y]⟩) (W.alloc (.cells #[.int .u8 (x.toNat : Int), .int .u8 (y.toNat : Int)] 5)) :=
  run_convert_bytes_back (P := Tryd.prog) _ 64 9 5 ⟨W.heap.size, 0, none⟩ 2 [x, y] Tryd.underlying64 Tryd.underlying5 Tryd.underlying9 (fun j hj => by
    rw [Addr.add_lit, World.cell?_alloc_at _ _ _ _ rfl]
    rcases (by simpa using hj : j < 2) with hj
    rcases (by omega : j = 0 ∨ j = 1) with rfl | rfl <;> rfl)
set_option maxRecDepth 100000 in
theorem ref_text_1 (w : World) :
    Calls Tryd.prog 15 #[.agg #[.int .i64 1, .bool false]] w fun e w' => e = .returned (.tuple #[.string (Cal.codeText 1 false).1, .bool (Cal.codeText 1 false).2]) ∧ Below w.heap.size w w' := by
  have HR : Aside0 (∀ W, Calls Tryd.prog 19 #[.agg #[.int .i64 1, .bool false]] W fun e w' => e = .returned (.bool true) ∧ Below W.heap.size W w') := ⟨fun W => almanackerref09_Right.calls 1 false _ W (by rw [refRight_ok]; rfl)⟩
  have HB := Aside0.mk (below_alloc (Below.refl w.heap.size w) (.cells #[.int .i64 1, .bool false] 23))
  have HBK := Aside0.mk (heap_alloc_new w (.cells #[.int .i64 1, .bool false] 23))
  go_enter Tryd.func15, Tryd.ntmps15
  go_wp2_with fail
  refine (HR.out _).mono ?_
  rintro e W1 ⟨rfl, hb⟩
  have HBK1 := Aside0.mk (blk_below HBK.out hb)
  have HB1 := Aside0.mk (HB.out.trans (hb.mono HB.out.size))
  have hz0 : W1.cell? ⟨w.heap.size, 0, none⟩ = some (.int .i64 1) := (blk_cell HBK1.out 0).trans rfl
  have hz1 : W1.cell? ⟨w.heap.size, 1, none⟩ = some (.bool false) := (blk_cell HBK1.out 1).trans rfl
  clear hb
  have hcv : (convert 64 9 (.slice (some ⟨W1.heap.size, 0, none⟩) 2 2)).run Tryd.prog (W1.alloc (.cells #[.int .u8 48, .int .u8 49] 5)) = .ok (.string ⟨#[48, 49]⟩) (W1.alloc (.cells #[.int .u8 48, .int .u8 49] 5)) := conv2 48 49 W1
  have hy0 : (W1.alloc (.cells #[.int .u8 48, .int .u8 49] 5)).cell? ⟨w.heap.size, 1, none⟩ = some (.bool false) := (blk_cell (blk_alloc HBK1.out _) 1).trans rfl
  go_wp2_with fail
  go_ret2
  exact ⟨rfl, below_alloc HB1.out _⟩
set_option maxRecDepth 100000 in
theorem ref_text_2 (w : World) :
    Calls Tryd.prog 15 #[.agg #[.int .i64 2, .bool false]] w fun e w' => e = .returned (.tuple #[.string (Cal.codeText 2 false).1, .bool (Cal.codeText 2 false).2]) ∧ Below w.heap.size w w' := by
  have HR : Aside0 (∀ W, Calls Tryd.prog 19 #[.agg #[.int .i64 2, .bool false]] W fun e w' => e = .returned (.bool true) ∧ Below W.heap.size W w') := ⟨fun W => almanackerref09_Right.calls 2 false _ W (by rw [refRight_ok]; rfl)⟩
  have HB := Aside0.mk (below_alloc (Below.refl w.heap.size w) (.cells #[.int .i64 2, .bool false] 23))
  have HBK := Aside0.mk (heap_alloc_new w (.cells #[.int .i64 2, .bool false] 23))
  go_enter Tryd.func15, Tryd.ntmps15
  go_wp2_with fail
  refine (HR.out _).mono ?_
  rintro e W1 ⟨rfl, hb⟩
  have HBK1 := Aside0.mk (blk_below HBK.out hb)
  have HB1 := Aside0.mk (HB.out.trans (hb.mono HB.out.size))
  have hz0 : W1.cell? ⟨w.heap.size, 0, none⟩ = some (.int .i64 2) := (blk_cell HBK1.out 0).trans rfl
  have hz1 : W1.cell? ⟨w.heap.size, 1, none⟩ = some (.bool false) := (blk_cell HBK1.out 1).trans rfl
  clear hb
  have hcv : (convert 64 9 (.slice (some ⟨W1.heap.size, 0, none⟩) 2 2)).run Tryd.prog (W1.alloc (.cells #[.int .u8 48, .int .u8 50] 5)) = .ok (.string ⟨#[48, 50]⟩) (W1.alloc (.cells #[.int .u8 48, .int .u8 50] 5)) := conv2 48 50 W1
  have hy0 : (W1.alloc (.cells #[.int .u8 48, .int .u8 50] 5)).cell? ⟨w.heap.size, 1, none⟩ = some (.bool false) := (blk_cell (blk_alloc HBK1.out _) 1).trans rfl
  go_wp2_with fail
  go_ret2
  exact ⟨rfl, below_alloc HB1.out _⟩
set_option maxRecDepth 100000 in
theorem ref_text_3 (w : World) :
    Calls Tryd.prog 15 #[.agg #[.int .i64 3, .bool false]] w fun e w' => e = .returned (.tuple #[.string (Cal.codeText 3 false).1, .bool (Cal.codeText 3 false).2]) ∧ Below w.heap.size w w' := by
  have HR : Aside0 (∀ W, Calls Tryd.prog 19 #[.agg #[.int .i64 3, .bool false]] W fun e w' => e = .returned (.bool true) ∧ Below W.heap.size W w') := ⟨fun W => almanackerref09_Right.calls 3 false _ W (by rw [refRight_ok]; rfl)⟩
  have HB := Aside0.mk (below_alloc (Below.refl w.heap.size w) (.cells #[.int .i64 3, .bool false] 23))
  have HBK := Aside0.mk (heap_alloc_new w (.cells #[.int .i64 3, .bool false] 23))
  go_enter Tryd.func15, Tryd.ntmps15
  go_wp2_with fail
  refine (HR.out _).mono ?_
  rintro e W1 ⟨rfl, hb⟩
  have HBK1 := Aside0.mk (blk_below HBK.out hb)
  have HB1 := Aside0.mk (HB.out.trans (hb.mono HB.out.size))
  have hz0 : W1.cell? ⟨w.heap.size, 0, none⟩ = some (.int .i64 3) := (blk_cell HBK1.out 0).trans rfl
  have hz1 : W1.cell? ⟨w.heap.size, 1, none⟩ = some (.bool false) := (blk_cell HBK1.out 1).trans rfl
  clear hb
  have hcv : (convert 64 9 (.slice (some ⟨W1.heap.size, 0, none⟩) 2 2)).run Tryd.prog (W1.alloc (.cells #[.int .u8 48, .int .u8 51] 5)) = .ok (.string ⟨#[48, 51]⟩) (W1.alloc (.cells #[.int .u8 48, .int .u8 51] 5)) := conv2 48 51 W1
  have hy0 : (W1.alloc (.cells #[.int .u8 48, .int .u8 51] 5)).cell? ⟨w.heap.size, 1, none⟩ = some (.bool false) := (blk_cell (blk_alloc HBK1.out _) 1).trans rfl
  go_wp2_with fail
  go_ret2
  exact ⟨rfl, below_alloc HB1.out _⟩
set_option maxRecDepth 100000 in
theorem ref_text_4 (w : World) :
    Calls Tryd.prog 15 #[.agg #[.int .i64 4, .bool false]] w fun e w' => e = .returned (.tuple #[.string (Cal.codeText 4 false).1, .bool (Cal.codeText 4 false).2]) ∧ Below w.heap.size w w' := by
  have HR : Aside0 (∀ W, Calls Tryd.prog 19 #[.agg #[.int .i64 4, .bool false]] W fun e w' => e = .returned (.bool true) ∧ Below W.heap.size W w') := ⟨fun W => almanackerref09_Right.calls 4 false _ W (by rw [refRight_ok]; rfl)⟩
  have HB := Aside0.mk (below_alloc (Below.refl w.heap.size w) (.cells #[.int .i64 4, .bool false] 23))
  have HBK := Aside0.mk (heap_alloc_new w (.cells #[.int .i64 4, .bool false] 23))
  go_enter Tryd.func15, Tryd.ntmps15
  go_wp2_with fail
  refine (HR.out _).mono ?_
  rintro e W1 ⟨rfl, hb⟩
  have HBK1 := Aside0.mk (blk_below HBK.out hb)
  have HB1 := Aside0.mk (HB.out.trans (hb.mono HB.out.size))
  have hz0 : W1.cell? ⟨w.heap.size, 0, none⟩ = some (.int .i64 4) := (blk_cell HBK1.out 0).trans rfl
  have hz1 : W1.cell? ⟨w.heap.size, 1, none⟩ = some (.bool false) := (blk_cell HBK1.out 1).trans rfl
  clear hb
  have hcv : (convert 64 9 (.slice (some ⟨W1.heap.size, 0, none⟩) 2 2)).run Tryd.prog (W1.alloc (.cells #[.int .u8 48, .int .u8 52] 5)) = .ok (.string ⟨#[48, 52]⟩) (W1.alloc (.cells #[.int .u8 48, .int .u8 52] 5)) := conv2 48 52 W1
  have hy0 : (W1.alloc (.cells #[.int .u8 48, .int .u8 52] 5)).cell? ⟨w.heap.size, 1, none⟩ = some (.bool false) := (blk_cell (blk_alloc HBK1.out _) 1).trans rfl
  go_wp2_with fail
  go_ret2
  exact ⟨rfl, below_alloc HB1.out _⟩
set_option maxRecDepth 100000 in
theorem ref_text_5 (w : World) :
    Calls Tryd.prog 15 #[.agg #[.int .i64 5, .bool false]] w fun e w' => e = .returned (.tuple #[.string (Cal.codeText 5 false).1, .bool (Cal.codeText 5 false).2]) ∧ Below w.heap.size w w' := by
  have HR : Aside0 (∀ W, Calls Tryd.prog 19 #[.agg #[.int .i64 5, .bool false]] W fun e w' => e = .returned (.bool true) ∧ Below W.heap.size W w') := ⟨fun W => almanackerref09_Right.calls 5 false _ W (by rw [refRight_ok]; rfl)⟩
  have HB := Aside0.mk (below_alloc (Below.refl w.heap.size w) (.cells #[.int .i64 5, .bool false] 23))
  have HBK := Aside0.mk (heap_alloc_new w (.cells #[.int .i64 5, .bool false] 23))
  go_enter Tryd.func15, Tryd.ntmps15
  go_wp2_with fail
  refine (HR.out _).mono ?_
  rintro e W1 ⟨rfl, hb⟩
  have HBK1 := Aside0.mk (blk_below HBK.out hb)
  have HB1 := Aside0.mk (HB.out.trans (hb.mono HB.out.size))
  have hz0 : W1.cell? ⟨w.heap.size, 0, none⟩ = some (.int .i64 5) := (blk_cell HBK1.out 0).trans rfl
  have hz1 : W1.cell? ⟨w.heap.size, 1, none⟩ = some (.bool false) := (blk_cell HBK1.out 1).trans rfl
  clear hb
  have hcv : (convert 64 9 (.slice (some ⟨W1.heap.size, 0, none⟩) 2 2)).run Tryd.prog (W1.alloc (.cells #[.int .u8 48, .int .u8 53] 5)) = .ok (.string ⟨#[48, 53]⟩) (W1.alloc (.cells #[.int .u8 48, .int .u8 53] 5)) := conv2 48 53 W1
  have hy0 : (W1.alloc (.cells #[.int .u8 48, .int .u8 53] 5)).cell? ⟨w.heap.size, 1, none⟩ = some (.bool false) := (blk_cell (blk_alloc HBK1.out _) 1).trans rfl
  go_wp2_with fail
  go_ret2
  exact ⟨rfl, below_alloc HB1.out _⟩
set_option maxRecDepth 100000 in
theorem ref_text_6 (w : World) :
    Calls Tryd.prog 15 #[.agg #[.int .i64 6, .bool false]] w fun e w' => e = .returned (.tuple #[.string (Cal.codeText 6 false).1, .bool (Cal.codeText 6 false).2]) ∧ Below w.heap.size w w' := by
  have HR : Aside0 (∀ W, Calls Tryd.prog 19 #[.agg #[.int .i64 6, .bool false]] W fun e w' => e = .returned (.bool true) ∧ Below W.heap.size W w') := ⟨fun W => almanackerref09_Right.calls 6 false _ W (by rw [refRight_ok]; rfl)⟩
  have HB := Aside0.mk (below_alloc (Below.refl w.heap.size w) (.cells #[.int .i64 6, .bool false] 23))
  have HBK := Aside0.mk (heap_alloc_new w (.cells #[.int .i64 6, .bool false] 23))
  go_enter Tryd.func15, Tryd.ntmps15
  go_wp2_with fail
  refine (HR.out _).mono ?_
  rintro e W1 ⟨rfl, hb⟩
  have HBK1 := Aside0.mk (blk_below HBK.out hb)
  have HB1 := Aside0.mk (HB.out.trans (hb.mono HB.out.size))
  have hz0 : W1.cell? ⟨w.heap.size, 0, none⟩ = some (.int .i64 6) := (blk_cell HBK1.out 0).trans rfl
  have hz1 : W1.cell? ⟨w.heap.size, 1, none⟩ = some (.bool false) := (blk_cell HBK1.out 1).trans rfl
  clear hb
  have hcv : (convert 64 9 (.slice (some ⟨W1.heap.size, 0, none⟩) 2 2)).run Tryd.prog (W1.alloc (.cells #[.int .u8 48, .int .u8 54] 5)) = .ok (.string ⟨#[48, 54]⟩) (W1.alloc (.cells #[.int .u8 48, .int .u8 54] 5)) := conv2 48 54 W1
  have hy0 : (W1.alloc (.cells #[.int .u8 48, .int .u8 54] 5)).cell? ⟨w.heap.size, 1, none⟩ = some (.bool false) := (blk_cell (blk_alloc HBK1.out _) 1).trans rfl
  go_wp2_with fail
  go_ret2
  exact ⟨rfl, below_alloc HB1.out _⟩
set_option maxRecDepth 100000 in
theorem ref_text_7 (w : World) :
    Calls Tryd.prog 15 #[.agg #[.int .i64 7, .bool false]] w fun e w' => e = .returned (.tuple #[.string (Cal.codeText 7 false).1, .bool (Cal.codeText 7 false).2]) ∧ Below w.heap.size w w' := by
  have HR : Aside0 (∀ W, Calls Tryd.prog 19 #[.agg #[.int .i64 7, .bool false]] W fun e w' => e = .returned (.bool true) ∧ Below W.heap.size W w') := ⟨fun W => almanackerref09_Right.calls 7 false _ W (by rw [refRight_ok]; rfl)⟩
  have HB := Aside0.mk (below_alloc (Below.refl w.heap.size w) (.cells #[.int .i64 7, .bool false] 23))
  have HBK := Aside0.mk (heap_alloc_new w (.cells #[.int .i64 7, .bool false] 23))
  go_enter Tryd.func15, Tryd.ntmps15
  go_wp2_with fail
  refine (HR.out _).mono ?_
  rintro e W1 ⟨rfl, hb⟩
  have HBK1 := Aside0.mk (blk_below HBK.out hb)
  have HB1 := Aside0.mk (HB.out.trans (hb.mono HB.out.size))
  have hz0 : W1.cell? ⟨w.heap.size, 0, none⟩ = some (.int .i64 7) := (blk_cell HBK1.out 0).trans rfl
  have hz1 : W1.cell? ⟨w.heap.size, 1, none⟩ = some (.bool false) := (blk_cell HBK1.out 1).trans rfl
  clear hb
  have hcv : (convert 64 9 (.slice (some ⟨W1.heap.size, 0, none⟩) 2 2)).run Tryd.prog (W1.alloc (.cells #[.int .u8 48, .int .u8 55] 5)) = .ok (.string ⟨#[48, 55]⟩) (W1.alloc (.cells #[.int .u8 48, .int .u8 55] 5)) := conv2 48 55 W1
  have hy0 : (W1.alloc (.cells #[.int .u8 48, .int .u8 55] 5)).cell? ⟨w.heap.size, 1, none⟩ = some (.bool false) := (blk_cell (blk_alloc HBK1.out _) 1).trans rfl
  go_wp2_with fail
  go_ret2
  exact ⟨rfl, below_alloc HB1.out _⟩
set_option maxRecDepth 100000 in
theorem ref_text_8 (w : World) :
    Calls Tryd.prog 15 #[.agg #[.int .i64 8, .bool false]] w fun e w' => e = .returned (.tuple #[.string (Cal.codeText 8 false).1, .bool (Cal.codeText 8 false).2]) ∧ Below w.heap.size w w' := by
  have HR : Aside0 (∀ W, Calls Tryd.prog 19 #[.agg #[.int .i64 8, .bool false]] W fun e w' => e = .returned (.bool true) ∧ Below W.heap.size W w') := ⟨fun W => almanackerref09_Right.calls 8 false _ W (by rw [refRight_ok]; rfl)⟩
  have HB := Aside0.mk (below_alloc (Below.refl w.heap.size w) (.cells #[.int .i64 8, .bool false] 23))
  have HBK := Aside0.mk (heap_alloc_new w (.cells #[.int .i64 8, .bool false] 23))
  go_enter Tryd.func15, Tryd.ntmps15
  go_wp2_with fail
  refine (HR.out _).mono ?_
  rintro e W1 ⟨rfl, hb⟩
  have HBK1 := Aside0.mk (blk_below HBK.out hb)
  have HB1 := Aside0.mk (HB.out.trans (hb.mono HB.out.size))
  have hz0 : W1.cell? ⟨w.heap.size, 0, none⟩ = some (.int .i64 8) := (blk_cell HBK1.out 0).trans rfl
  have hz1 : W1.cell? ⟨w.heap.size, 1, none⟩ = some (.bool false) := (blk_cell HBK1.out 1).trans rfl
  clear hb
  have hcv : (convert 64 9 (.slice (some ⟨W1.heap.size, 0, none⟩) 2 2)).run Tryd.prog (W1.alloc (.cells #[.int .u8 48, .int .u8 56] 5)) = .ok (.string ⟨#[48, 56]⟩) (W1.alloc (.cells #[.int .u8 48, .int .u8 56] 5)) := conv2 48 56 W1
  have hy0 : (W1.alloc (.cells #[.int .u8 48, .int .u8 56] 5)).cell? ⟨w.heap.size, 1, none⟩ = some (.bool false) := (blk_cell (blk_alloc HBK1.out _) 1).trans rfl
  go_wp2_with fail
  go_ret2
  exact ⟨rfl, below_alloc HB1.out _⟩
set_option maxRecDepth 100000 in
theorem ref_text_9 (w : World) :
    Calls Tryd.prog 15 #[.agg #[.int .i64 9, .bool false]] w fun e w' => e = .returned (.tuple #[.string (Cal.codeText 9 false).1, .bool (Cal.codeText 9 false).2]) ∧ Below w.heap.size w w' := by
  have HR : Aside0 (∀ W, Calls Tryd.prog 19 #[.agg #[.int .i64 9, .bool false]] W fun e w' => e = .returned (.bool true) ∧ Below W.heap.size W w') := ⟨fun W => almanackerref09_Right.calls 9 false _ W (by rw [refRight_ok]; rfl)⟩
  have HB := Aside0.mk (below_alloc (Below.refl w.heap.size w) (.cells #[.int .i64 9, .bool false] 23))
  have HBK := Aside0.mk (heap_alloc_new w (.cells #[.int .i64 9, .bool false] 23))
  go_enter Tryd.func15, Tryd.ntmps15
  go_wp2_with fail
  refine (HR.out _).mono ?_
  rintro e W1 ⟨rfl, hb⟩
  have HBK1 := Aside0.mk (blk_below HBK.out hb)
  have HB1 := Aside0.mk (HB.out.trans (hb.mono HB.out.size))
  have hz0 : W1.cell? ⟨w.heap.size, 0, none⟩ = some (.int .i64 9) := (blk_cell HBK1.out 0).trans rfl
  have hz1 : W1.cell? ⟨w.heap.size, 1, none⟩ = some (.bool false) := (blk_cell HBK1.out 1).trans rfl
  clear hb
  have hcv : (convert 64 9 (.slice (some ⟨W1.heap.size, 0, none⟩) 2 2)).run Tryd.prog (W1.alloc (.cells #[.int .u8 48, .int .u8 57] 5)) = .ok (.string ⟨#[48, 57]⟩) (W1.alloc (.cells #[.int .u8 48, .int .u8 57] 5)) := conv2 48 57 W1
  have hy0 : (W1.alloc (.cells #[.int .u8 48, .int .u8 57] 5)).cell? ⟨w.heap.size, 1, none⟩ = some (.bool false) := (blk_cell (blk_alloc HBK1.out _) 1).trans rfl
  go_wp2_with fail
  go_ret2
  exact ⟨rfl, below_alloc HB1.out _⟩
set_option maxRecDepth 100000 in
theorem ref_text_10 (w : World) :
    Calls Tryd.prog 15 #[.agg #[.int .i64 10, .bool false]] w fun e w' => e = .returned (.tuple #[.string (Cal.codeText 10 false).1, .bool (Cal.codeText 10 false).2]) ∧ Below w.heap.size w w' := by
  have HR : Aside0 (∀ W, Calls Tryd.prog 19 #[.agg #[.int .i64 10, .bool false]] W fun e w' => e = .returned (.bool true) ∧ Below W.heap.size W w') := ⟨fun W => almanackerref09_Right.calls 10 false _ W (by rw [refRight_ok]; rfl)⟩
  have HB := Aside0.mk (below_alloc (Below.refl w.heap.size w) (.cells #[.int .i64 10, .bool false] 23))
  have HBK := Aside0.mk (heap_alloc_new w (.cells #[.int .i64 10, .bool false] 23))
  go_enter Tryd.func15, Tryd.ntmps15
  go_wp2_with fail
  refine (HR.out _).mono ?_
  rintro e W1 ⟨rfl, hb⟩
  have HBK1 := Aside0.mk (blk_below HBK.out hb)
  have HB1 := Aside0.mk (HB.out.trans (hb.mono HB.out.size))
  have hz0 : W1.cell? ⟨w.heap.size, 0, none⟩ = some (.int .i64 10) := (blk_cell HBK1.out 0).trans rfl
  have hz1 : W1.cell? ⟨w.heap.size, 1, none⟩ = some (.bool false) := (blk_cell HBK1.out 1).trans rfl
  clear hb
  have hcv : (convert 64 9 (.slice (some ⟨W1.heap.size, 0, none⟩) 2 2)).run Tryd.prog (W1.alloc (.cells #[.int .u8 49, .int .u8 48] 5)) = .ok (.string ⟨#[49, 48]⟩) (W1.alloc (.cells #[.int .u8 49, .int .u8 48] 5)) := conv2 49 48 W1
  have hy0 : (W1.alloc (.cells #[.int .u8 49, .int .u8 48] 5)).cell? ⟨w.heap.size, 1, none⟩ = some (.bool false) := (blk_cell (blk_alloc HBK1.out _) 1).trans rfl
  go_wp2_with fail
  go_ret2
  exact ⟨rfl, below_alloc HB1.out _⟩
set_option maxRecDepth 100000 in
theorem ref_text_11 (w : World) :
    Calls Tryd.prog 15 #[.agg #[.int .i64 11, .bool false]] w fun e w' => e = .returned (.tuple #[.string (Cal.codeText 11 false).1, .bool (Cal.codeText 11 false).2]) ∧ Below w.heap.size w w' := by
  have HR : Aside0 (∀ W, Calls Tryd.prog 19 #[.agg #[.int .i64 11, .bool false]] W fun e w' => e = .returned (.bool true) ∧ Below W.heap.size W w') := ⟨fun W => almanackerref09_Right.calls 11 false _ W (by rw [refRight_ok]; rfl)⟩
  have HB := Aside0.mk (below_alloc (Below.refl w.heap.size w) (.cells #[.int .i64 11, .bool false] 23))
  have HBK := Aside0.mk (heap_alloc_new w (.cells #[.int .i64 11, .bool false] 23))
  go_enter Tryd.func15, Tryd.ntmps15
  go_wp2_with fail
  refine (HR.out _).mono ?_
  rintro e W1 ⟨rfl, hb⟩
  have HBK1 := Aside0.mk (blk_below HBK.out hb)
  have HB1 := Aside0.mk (HB.out.trans (hb.mono HB.out.size))
  have hz0 : W1.cell? ⟨w.heap.size, 0, none⟩ = some (.int .i64 11) := (blk_cell HBK1.out 0).trans rfl
  have hz1 : W1.cell? ⟨w.heap.size, 1, none⟩ = some (.bool false) := (blk_cell HBK1.out 1).trans rfl
  clear hb
  have hcv : (convert 64 9 (.slice (some ⟨W1.heap.size, 0, none⟩) 2 2)).run Tryd.prog (W1.alloc (.cells #[.int .u8 49, .int .u8 49] 5)) = .ok (.string ⟨#[49, 49]⟩) (W1.alloc (.cells #[.int .u8 49, .int .u8 49] 5)) := conv2 49 49 W1
  have hy0 : (W1.alloc (.cells #[.int .u8 49, .int .u8 49] 5)).cell? ⟨w.heap.size, 1, none⟩ = some (.bool false) := (blk_cell (blk_alloc HBK1.out _) 1).trans rfl
  go_wp2_with fail
  go_ret2
  exact ⟨rfl, below_alloc HB1.out _⟩
set_option maxRecDepth 100000 in
theorem ref_text_12 (w : World) :
    Calls Tryd.prog 15 #[.agg #[.int .i64 12, .bool false]] w fun e w' => e = .returned (.tuple #[.string (Cal.codeText 12 false).1, .bool (Cal.codeText 12 false).2]) ∧ Below w.heap.size w w' := by
  have HR : Aside0 (∀ W, Calls Tryd.prog 19 #[.agg #[.int .i64 12, .bool false]] W fun e w' => e = .returned (.bool true) ∧ Below W.heap.size W w') := ⟨fun W => almanackerref09_Right.calls 12 false _ W (by rw [refRight_ok]; rfl)⟩
  have HB := Aside0.mk (below_alloc (Below.refl w.heap.size w) (.cells #[.int .i64 12, .bool false] 23))
  have HBK := Aside0.mk (heap_alloc_new w (.cells #[.int .i64 12, .bool false] 23))
  go_enter Tryd.func15, Tryd.ntmps15
  go_wp2_with fail
  refine (HR.out _).mono ?_
  rintro e W1 ⟨rfl, hb⟩
  have HBK1 := Aside0.mk (blk_below HBK.out hb)
  have HB1 := Aside0.mk (HB.out.trans (hb.mono HB.out.size))
  have hz0 : W1.cell? ⟨w.heap.size, 0, none⟩ = some (.int .i64 12) := (blk_cell HBK1.out 0).trans rfl
  have hz1 : W1.cell? ⟨w.heap.size, 1, none⟩ = some (.bool false) := (blk_cell HBK1.out 1).trans rfl
  clear hb
  have hcv : (convert 64 9 (.slice (some ⟨W1.heap.size, 0, none⟩) 2 2)).run Tryd.prog (W1.alloc (.cells #[.int .u8 49, .int .u8 50] 5)) = .ok (.string ⟨#[49, 50]⟩) (W1.alloc (.cells #[.int .u8 49, .int .u8 50] 5)) := conv2 49 50 W1
  have hy0 : (W1.alloc (.cells #[.int .u8 49, .int .u8 50] 5)).cell? ⟨w.heap.size, 1, none⟩ = some (.bool false) := (blk_cell (blk_alloc HBK1.out _) 1).trans rfl
  go_wp2_with fail
  go_ret2
  exact ⟨rfl, below_alloc HB1.out _⟩
set_option maxRecDepth 100000 in
theorem ref_text_5l (w : World) :
    Calls Tryd.prog 15 #[.agg #[.int .i64 5, .bool true]] w fun e w' => e = .returned (.tuple #[.string (Cal.codeText 5 true).1, .bool (Cal.codeText 5 true).2]) ∧ Below w.heap.size w w' := by
  have HR : Aside0 (∀ W, Calls Tryd.prog 19 #[.agg #[.int .i64 5, .bool true]] W fun e w' => e = .returned (.bool true) ∧ Below W.heap.size W w') := ⟨fun W => almanackerref09_Right.calls 5 true _ W (by rw [refRight_ok]; rfl)⟩
  have HB := Aside0.mk (below_alloc (Below.refl w.heap.size w) (.cells #[.int .i64 5, .bool true] 23))
  have HBK := Aside0.mk (heap_alloc_new w (.cells #[.int .i64 5, .bool true] 23))
  go_enter Tryd.func15, Tryd.ntmps15
  go_wp2_with fail
  refine (HR.out _).mono ?_
  rintro e W1 ⟨rfl, hb⟩
  have HBK1 := Aside0.mk (blk_below HBK.out hb)
  have HB1 := Aside0.mk (HB.out.trans (hb.mono HB.out.size))
  have hz0 : W1.cell? ⟨w.heap.size, 0, none⟩ = some (.int .i64 5) := (blk_cell HBK1.out 0).trans rfl
  have hz1 : W1.cell? ⟨w.heap.size, 1, none⟩ = some (.bool true) := (blk_cell HBK1.out 1).trans rfl
  clear hb
  have hcv : (convert 64 9 (.slice (some ⟨W1.heap.size, 0, none⟩) 2 2)).run Tryd.prog (W1.alloc (.cells #[.int .u8 48, .int .u8 53] 5)) = .ok (.string ⟨#[48, 53]⟩) (W1.alloc (.cells #[.int .u8 48, .int .u8 53] 5)) := conv2 48 53 W1
  have hy0 : (W1.alloc (.cells #[.int .u8 48, .int .u8 53] 5)).cell? ⟨w.heap.size, 1, none⟩ = some (.bool true) := (blk_cell (blk_alloc HBK1.out _) 1).trans rfl
  go_wp2_with fail
  go_ret2
  exact ⟨rfl, below_alloc HB1.out _⟩
theorem almanackerref09_Text.calls (a0_0 : Int) (a0_1 : Bool) (r1 : ByteArray) (r2 : Bool) (w : World) (h : almanackerref09_Text.f a0_0 a0_1 = some (r1, r2)) :
    Calls Tryd.prog 15 #[.agg #[.int .i64 a0_0, .bool a0_1]] w fun e w' => e = .returned (.tuple #[.string r1, .bool r2]) ∧ Below w.heap.size w w' := by
  obtain ⟨h1, h2⟩ : (Cal.codeText a0_0 a0_1).1 = r1 ∧ (Cal.codeText a0_0 a0_1).2 = r2 := by
    have := Option.some.inj h; rw [this]; exact ⟨rfl, rfl⟩
  subst h1; subst h2; clear h
  by_cases hc : Cal.codeOk a0_0 a0_1 = true
  · rcases Cal.codeOk_cases hc with ⟨h1, h2⟩ | ⟨h1, h2⟩
    · subst h1; subst h2; exact ref_text_5l w
    · subst h1
      rcases h2 with h2 | h2 | h2 | h2 | h2 | h2 | h2 | h2 | h2 | h2 | h2 | h2
      · subst h2; exact ref_text_1 w
      · subst h2; exact ref_text_2 w
      · subst h2; exact ref_text_3 w
      · subst h2; exact ref_text_4 w
      · subst h2; exact ref_text_5 w
      · subst h2; exact ref_text_6 w
      · subst h2; exact ref_text_7 w
      · subst h2; exact ref_text_8 w
      · subst h2; exact ref_text_9 w
      · subst h2; exact ref_text_10 w
      · subst h2; exact ref_text_11 w
      · subst h2; exact ref_text_12 w
  · have hc' : Cal.codeOk a0_0 a0_1 = false := by simpa using hc
    have e1 : Cal.codeText a0_0 a0_1 = (⟨#[]⟩, false) := by unfold Cal.codeText; rw [if_neg hc]
    have HR : Aside0 (∀ W, Calls Tryd.prog 19 #[.agg #[.int .i64 a0_0, .bool a0_1]] W fun e w' => e = .returned (.bool false) ∧ Below W.heap.size W w') := ⟨fun W => almanackerref09_Right.calls a0_0 a0_1 _ W (by rw [refRight_ok, hc'])⟩
    have HB := Aside0.mk (below_alloc (Below.refl w.heap.size w) (.cells #[.int .i64 a0_0, .bool a0_1] 23))
    rw [e1]
    clear e1 hc hc'
    go_enter Tryd.func15, Tryd.ntmps15
    go_wp2_with fail
    refine (HR.out _).mono ?_
    rintro e W1 ⟨rfl, hb⟩
    have HB1 := Aside0.mk (HB.out.trans (hb.mono HB.out.size))
    clear hb
    go_wp2_with fail
    go_ret2
    exact ⟨rfl, HB1.out⟩

/-! ### almanackerref09_codes: function 51 -/
def almanackerref09_codes.l0 : Nat → Bool → List (S23) → Int → Option ((List (S23)))
  | 0, _, _, _ => none
  | k + 1, x0, x3, x4 => if x4 ≤ 12 then (if x3.length < 8796093022208 then ((some (x3 ++ [(⟨x4, false⟩ : S23)] : List (S23))).bind fun y113 => (if x4 = 5 then (if x0 = true then (if y113.length < 8796093022208 then (almanackerref09_codes.l0 k x0 (y113 ++ [(⟨5, true⟩ : S23)]) (wrap64 (x4 + 1))) else (none)) else (almanackerref09_codes.l0 k x0 y113 (wrap64 (x4 + 1)))) else (almanackerref09_codes.l0 k x0 y113 (wrap64 (x4 + 1))))) else (none)) else (some x3)
def almanackerref09_codes.f (k : Nat) (a0 : Bool) : Option ((List (S23))) := almanackerref09_codes.l0 k a0 ([] : List (S23)) 1
theorem almanackerref09_codes.mono_l : ∀ k, (∀ y0 y1 y2, LeO (almanackerref09_codes.l0 k y0 y1 y2) (almanackerref09_codes.l0 (k + 1) y0 y1 y2))
  | 0 => fun _ _ _ r h => by simp [almanackerref09_codes.l0] at h
  | k + 1 => by
    have ih0 := almanackerref09_codes.mono_l k
    · intro y0 y1 y2
      unfold almanackerref09_codes.l0
      repeat' first
      | (with_reducible exact ih0 _ _ _)
      | (with_reducible exact LeO.refl _)
      | (with_reducible exact LeO.none _)
      | (with_reducible refine LeO.ite ?_ ?_)
      | (with_reducible refine LeO.bind ?_ (fun _ => ?_))
      | exact ih0 _ _ _
      | exact LeO.none _
      | refine LeO.ite ?_ ?_
      | refine LeO.bind ?_ (fun _ => ?_)
theorem almanackerref09_codes.mono : ∀ a0 k, LeO (almanackerref09_codes.f k a0) (almanackerref09_codes.f (k + 1) a0) := by
  intro a0 k
  have ih0 := almanackerref09_codes.mono_l k
  unfold almanackerref09_codes.f
  repeat' first
      | (with_reducible exact ih0 _ _ _)
      | (with_reducible exact LeO.refl _)
      | (with_reducible exact LeO.none _)
      | (with_reducible refine LeO.ite ?_ ?_)
      | (with_reducible refine LeO.bind ?_ (fun _ => ?_))
      | exact ih0 _ _ _
      | exact LeO.none _
      | refine LeO.ite ?_ ?_
      | refine LeO.bind ?_ (fun _ => ?_)
set_option maxHeartbeats 8000000 in
set_option maxRecDepth 100000 in
theorem almanackerref09_codes.calls (k : Nat) (a0 : Bool) (r : List (S23)) (w : World) (h : almanackerref09_codes.f k a0 = some r) :
    Calls Tryd.prog 51 #[.bool a0] w fun e w' => ∃ v0_ : Value, e = .returned (v0_) ∧ Kd.R k23 23 w' w.heap.size (fun _ => True) v0_ r ∧ Below w.heap.size w w' := by
  have hu23 := Tryd.underlying23
  have HB := Aside0.mk (Below.refl w.heap.size w)
  have H : (almanackerref09_codes.l0 k a0 ([] : List (S23)) 1) = some r := h
  clear h
  have H' := Aside0.mk H
  clear H
  go_enter Tryd.func51, Tryd.ntmps51
  go_wp2
  go_loopg [3, 4] k (fun kq v3 v4 w' => ∃ (x3_1 : List (S23)) (x4_1 : Int), v4 = .int .i64 x4_1 ∧ Aside0 (almanackerref09_codes.l0 kq a0 x3_1 x4_1 = some r) ∧ Aside0 (kq ≤ k) ∧ Aside0 (Kd.R k23 23 w' w.heap.size (fun _ => True) v3 x3_1) ∧ Aside0 (Below w.heap.size w w'))
  case atStart => exact ⟨(([] : List (S23))), (1), (by first | rfl | (simp; done) | (simp [*]; done)), H', ⟨Nat.le_refl _⟩, ⟨by first | exact Kd.R_nil _ _ _ _ _ | exact Kd.N_nil _ _ _ _ _ | exact Kd.V_nil _ _ _ _ _ | exact Kd.Q_nil _ _ _ _ _ | exact Kd.S_nil _ _ _ _ _⟩, ⟨by repeat (first | (with_reducible first | exact HB.out | apply below_alloc | apply pw_below_drewN | apply below_drew1) | exact HB.out)⟩⟩
  case round =>
    clear H'
    obtain ⟨x3_1, x4_1, rfl, HA, HK1, HO_3, HB⟩ := hrel
    cases gk with
    | zero => exact absurd HA.out (by simp [almanackerref09_codes.l0])
    | succ k1 =>
      have H := HA.out
      clear HA
      simp only [almanackerref09_codes.l0] at H
      by_cases c2 : x4_1 ≤ 12
      · rw [if_pos c2] at H
        have c2b0 : decide (x4_1 ≤ 12) = true := decide_eq_true c2
        clear c2
        by_cases c3 : x3_1.length < 8796093022208
        · rw [if_pos c3] at H
          have LMc3 := Aside0.mk c3
          clear c3
          obtain ⟨y113, hy113⟩ : ∃ y_ : List (S23), y_ = (x3_1 ++ [(⟨x4_1, false⟩ : S23)]) := ⟨_, rfl⟩
          replace H : (if x4_1 = 5 then (if a0 = true then (if y113.length < 8796093022208 then (almanackerref09_codes.l0 k1 a0 (y113 ++ [(⟨5, true⟩ : S23)]) (wrap64 (x4_1 + 1))) else (none)) else (almanackerref09_codes.l0 k1 a0 y113 (wrap64 (x4_1 + 1)))) else (almanackerref09_codes.l0 k1 a0 y113 (wrap64 (x4_1 + 1)))) = some r := by first | (rw [hy113]; with_reducible exact H) | (have H2_ := (Option.bind_some _ _).symm.trans H; rw [hy113]; with_reducible exact H2_) | (have H2_ := (Option.bind_some _ _).symm.trans H; with_reducible exact H2_) | with_reducible exact H | (rw [hy113]; exact H) | exact H
          have Ny113 := Aside0.mk hy113
          clear hy113
          by_cases c4 : x4_1 = 5
          · rw [if_pos c4] at H
            have c4b0 : (x4_1 == 5) = true := beq_iff_eq.mpr c4
            have c4b1 : (x4_1 != 5) = false := bne_eq_false_iff_eq.mpr c4
            clear c4
            by_cases c5 : a0 = true
            · subst c5
              have H1 : (if y113.length < 8796093022208 then (almanackerref09_codes.l0 k1 true (y113 ++ [(⟨5, true⟩ : S23)]) (wrap64 (x4_1 + 1))) else (none)) = some r := by rw [if_pos rfl] at H; exact H
              clear H
              have H := H1
              clear H1
              by_cases c6 : y113.length < 8796093022208
              · rw [if_pos c6] at H
                have LMc6 := Aside0.mk c6
                clear c6
                obtain ⟨y116, hy116⟩ : ∃ y_ : List (S23), y_ = (y113 ++ [(⟨5, true⟩ : S23)]) := ⟨_, rfl⟩
                replace H : (almanackerref09_codes.l0 k1 true y116 (wrap64 (x4_1 + 1))) = some r := by first | (rw [hy116]; with_reducible exact H) | (have H2_ := (Option.bind_some _ _).symm.trans H; rw [hy116]; with_reducible exact H2_) | (have H2_ := (Option.bind_some _ _).symm.trans H; with_reducible exact H2_) | with_reducible exact H | (rw [hy116]; exact H) | exact H
                have Ny116 := Aside0.mk hy116
                clear hy116
                have H' := Aside0.mk H
                clear H
                go_wp2_with (first | ((with_reducible refine gate_builtin (b := .append) (xs := #[.tmp 9, .tmp 12]) rfl ?_); at_builtin; refine Kd.R_append k23 (w0 := w) w.heap.size rfl (.tmp 9) (.tmp 12) 71 23 (.agg #[(.int .i64 0), (.bool false)]) 16 rfl Tryd.underlying71 info23 rfl (by decide) (by omega) u3 x3_1 (⟨x4_1, false⟩ : S23) [.int .i64 x4_1, .bool false] (fun _ => True) (fun _ => False) rfl rfl ?aP (fun _ hk => hk.elim) ?aF ?aO ?aB ?aS ?aL ?_; (case aP => exact k23_mkM _ _ _ (⟨x4_1, false⟩ : S23)); (case aB => exact (by repeat (first | (with_reducible first | exact HB.out | apply below_alloc | apply pw_below_drewN | apply below_drew1) | exact HB.out))); (case aF => exact (fun _ _ => trivial)); (case aO => exact (by (with_reducible repeat (first | apply Kd.R_alloc | apply Kd.R_drewN | apply Kd.R_drew)); exact HO_3.out)); (case aS => exact (below_size (by repeat (first | (with_reducible first | exact HB.out | apply below_alloc | apply pw_below_drewN | apply below_drew1) | exact HB.out)))); (case aL => have := LMc3.out; omega); intro v114 w7 ho hb hg hat; rw [← Ny113.out] at ho; have n0_ := Aside0.mk (hb); have n1_ := Aside0.mk (ho); clear HB; clear HO_3; have HB := n0_; have HO115 := n1_; clear n0_ n1_; clear ho hb hg hat) | ((with_reducible refine gate_builtin (b := .append) (xs := #[.tmp 19, .tmp 21]) rfl ?_); at_builtin; refine Kd.R_append k23 (w0 := w) w.heap.size rfl (.tmp 19) (.tmp 21) 71 23 (.agg #[(.int .i64 0), (.bool false)]) 16 rfl Tryd.underlying71 info23 rfl (by decide) (by omega) v114 y113 (⟨5, true⟩ : S23) [.int .i64 5, .bool true] (fun _ => True) (fun _ => False) rfl rfl ?aP (fun _ hk => hk.elim) ?aF ?aO ?aB ?aS ?aL ?_; (case aP => exact k23_mkM _ _ _ (⟨5, true⟩ : S23)); (case aB => exact (by repeat (first | (with_reducible first | exact HB.out | apply below_alloc | apply pw_below_drewN | apply below_drew1) | exact HB.out))); (case aF => exact (fun _ _ => trivial)); (case aO => exact (by (with_reducible repeat (first | apply Kd.R_alloc | apply Kd.R_drewN | apply Kd.R_drew)); exact HO115.out)); (case aS => exact (below_size (by repeat (first | (with_reducible first | exact HB.out | apply below_alloc | apply pw_below_drewN | apply below_drew1) | exact HB.out)))); (case aL => have := LMc6.out; omega); intro v117 w8 ho hb hg hat; rw [← Ny116.out] at ho; have n0_ := Aside0.mk (hb); have n1_ := Aside0.mk (ho); clear HB; clear HO115; have HB := n0_; have HO118 := n1_; clear n0_ n1_; clear ho hb hg hat))
                go_roundg k1
                case measure => have := HK1.out; omega
                case rel => exact ⟨(y116), (wrap64 (x4_1 + 1)), (by first | rfl | (simp; done) | (simp [*]; done)), H', ⟨by have := HK1.out; omega⟩, ⟨by (with_reducible repeat (first | apply Kd.R_alloc | apply Kd.R_drewN | apply Kd.R_drew)); exact HO118.out⟩, ⟨by repeat (first | (with_reducible first | exact HB.out | apply below_alloc | apply pw_below_drewN | apply below_drew1) | exact HB.out)⟩⟩
              · rw [if_neg c6] at H
                exact absurd H (by simp)
            · replace c5 := Bool.eq_false_iff.mpr c5
              subst c5
              have H1 : (almanackerref09_codes.l0 k1 false y113 (wrap64 (x4_1 + 1))) = some r := by rw [if_neg (show ¬ (false = true) by decide)] at H; exact H
              clear H
              have H := H1
              clear H1
              have H' := Aside0.mk H
              clear H
              go_wp2_with (first | ((with_reducible refine gate_builtin (b := .append) (xs := #[.tmp 9, .tmp 12]) rfl ?_); at_builtin; refine Kd.R_append k23 (w0 := w) w.heap.size rfl (.tmp 9) (.tmp 12) 71 23 (.agg #[(.int .i64 0), (.bool false)]) 16 rfl Tryd.underlying71 info23 rfl (by decide) (by omega) u3 x3_1 (⟨x4_1, false⟩ : S23) [.int .i64 x4_1, .bool false] (fun _ => True) (fun _ => False) rfl rfl ?aP (fun _ hk => hk.elim) ?aF ?aO ?aB ?aS ?aL ?_; (case aP => exact k23_mkM _ _ _ (⟨x4_1, false⟩ : S23)); (case aB => exact (by repeat (first | (with_reducible first | exact HB.out | apply below_alloc | apply pw_below_drewN | apply below_drew1) | exact HB.out))); (case aF => exact (fun _ _ => trivial)); (case aO => exact (by (with_reducible repeat (first | apply Kd.R_alloc | apply Kd.R_drewN | apply Kd.R_drew)); exact HO_3.out)); (case aS => exact (below_size (by repeat (first | (with_reducible first | exact HB.out | apply below_alloc | apply pw_below_drewN | apply below_drew1) | exact HB.out)))); (case aL => have := LMc3.out; omega); intro v114 w9 ho hb hg hat; rw [← Ny113.out] at ho; have n0_ := Aside0.mk (hb); have n1_ := Aside0.mk (ho); clear HB; clear HO_3; have HB := n0_; have HO115 := n1_; clear n0_ n1_; clear ho hb hg hat))
              go_roundg k1
              case measure => have := HK1.out; omega
              case rel => exact ⟨(y113), (wrap64 (x4_1 + 1)), (by first | rfl | (simp; done) | (simp [*]; done)), H', ⟨by have := HK1.out; omega⟩, ⟨by (with_reducible repeat (first | apply Kd.R_alloc | apply Kd.R_drewN | apply Kd.R_drew)); exact HO115.out⟩, ⟨by repeat (first | (with_reducible first | exact HB.out | apply below_alloc | apply pw_below_drewN | apply below_drew1) | exact HB.out)⟩⟩
          · rw [if_neg c4] at H
            have c4b0 : (x4_1 == 5) = false := beq_eq_false_iff_ne.mpr c4
            have c4b1 : (x4_1 != 5) = true := bne_iff_ne.mpr c4
            have H' := Aside0.mk H
            clear H
            go_wp2_with (first | ((with_reducible refine gate_builtin (b := .append) (xs := #[.tmp 9, .tmp 12]) rfl ?_); at_builtin; refine Kd.R_append k23 (w0 := w) w.heap.size rfl (.tmp 9) (.tmp 12) 71 23 (.agg #[(.int .i64 0), (.bool false)]) 16 rfl Tryd.underlying71 info23 rfl (by decide) (by omega) u3 x3_1 (⟨x4_1, false⟩ : S23) [.int .i64 x4_1, .bool false] (fun _ => True) (fun _ => False) rfl rfl ?aP (fun _ hk => hk.elim) ?aF ?aO ?aB ?aS ?aL ?_; (case aP => exact k23_mkM _ _ _ (⟨x4_1, false⟩ : S23)); (case aB => exact (by repeat (first | (with_reducible first | exact HB.out | apply below_alloc | apply pw_below_drewN | apply below_drew1) | exact HB.out))); (case aF => exact (fun _ _ => trivial)); (case aO => exact (by (with_reducible repeat (first | apply Kd.R_alloc | apply Kd.R_drewN | apply Kd.R_drew)); exact HO_3.out)); (case aS => exact (below_size (by repeat (first | (with_reducible first | exact HB.out | apply below_alloc | apply pw_below_drewN | apply below_drew1) | exact HB.out)))); (case aL => have := LMc3.out; omega); intro v114 w10 ho hb hg hat; rw [← Ny113.out] at ho; have n0_ := Aside0.mk (hb); have n1_ := Aside0.mk (ho); clear HB; clear HO_3; have HB := n0_; have HO115 := n1_; clear n0_ n1_; clear ho hb hg hat))
            go_roundg k1
            case measure => have := HK1.out; omega
            case rel => exact ⟨(y113), (wrap64 (x4_1 + 1)), (by first | rfl | (simp; done) | (simp [*]; done)), H', ⟨by have := HK1.out; omega⟩, ⟨by (with_reducible repeat (first | apply Kd.R_alloc | apply Kd.R_drewN | apply Kd.R_drew)); exact HO115.out⟩, ⟨by repeat (first | (with_reducible first | exact HB.out | apply below_alloc | apply pw_below_drewN | apply below_drew1) | exact HB.out)⟩⟩
        · rw [if_neg c3] at H
          exact absurd H (by simp)
      · rw [if_neg c2] at H
        have c2b0 : decide (x4_1 ≤ 12) = false := decide_eq_false c2
        clear c2
        obtain rfl := Option.some.inj H
        go_wp2
        go_ret
        exact ⟨_, by first | rfl | (simp [errW_none, errW_some] <;> rfl) | (simp [*, errW_none, errW_some] <;> rfl), by (with_reducible repeat (first | apply Kd.R_alloc | apply Kd.R_drewN | apply Kd.R_drew)); exact HO_3.out, by repeat (first | (with_reducible first | exact HB.out | apply below_alloc | apply pw_below_drewN | apply below_drew1) | exact HB.out)⟩

/-! ### almanackerref09_Read: function 17 -/
def almanackerref09_Read.l0 : Nat → ByteArray → List (S23) → Int → Option (Int × Bool × Bool)
  | 0, _, _, _ => none
  | k + 1, x0, x4, x5 => if x5 < (x4.length : Int) then (if 0 ≤ x5 then ((almanackerref09_Text.f ((rd_T23 x4 x5).f0) ((rd_T23 x4 x5).f1)).bind fun bt124 => (if bt124.1.toList = x0.toList then (some ((rd_T23 x4 x5).f0, (rd_T23 x4 x5).f1, true)) else (almanackerref09_Read.l0 k x0 x4 (wrap64 (x5 + 1))))) else (none)) else (some (0, false, false))
def almanackerref09_Read.f (k : Nat) (a0 : ByteArray) : Option (Int × Bool × Bool) := (almanackerref09_codes.f k true).bind fun t120 => (almanackerref09_Read.l0 k a0 t120 0)
theorem almanackerref09_Read.mono_l : ∀ k, (∀ y0 y1 y2, LeO (almanackerref09_Read.l0 k y0 y1 y2) (almanackerref09_Read.l0 (k + 1) y0 y1 y2))
  | 0 => fun _ _ _ r h => by simp [almanackerref09_Read.l0] at h
  | k + 1 => by
    have ih0 := almanackerref09_Read.mono_l k
    · intro y0 y1 y2
      unfold almanackerref09_Read.l0
      repeat' first
      | (with_reducible exact ih0 _ _ _)
      | (with_reducible exact almanackerref09_codes.mono _ _)
      | (with_reducible exact LeO.refl _)
      | (with_reducible exact LeO.none _)
      | (with_reducible refine LeO.ite ?_ ?_)
      | (with_reducible refine LeO.bind ?_ (fun _ => ?_))
      | exact ih0 _ _ _
      | exact almanackerref09_codes.mono _ _
      | exact LeO.none _
      | refine LeO.ite ?_ ?_
      | refine LeO.bind ?_ (fun _ => ?_)
theorem almanackerref09_Read.mono : ∀ a0 k, LeO (almanackerref09_Read.f k a0) (almanackerref09_Read.f (k + 1) a0) := by
  intro a0 k
  have ih0 := almanackerref09_Read.mono_l k
  unfold almanackerref09_Read.f
  repeat' first
      | (with_reducible exact ih0 _ _ _)
      | (with_reducible exact almanackerref09_codes.mono _ _)
      | (with_reducible exact LeO.refl _)
      | (with_reducible exact LeO.none _)
      | (with_reducible refine LeO.ite ?_ ?_)
      | (with_reducible refine LeO.bind ?_ (fun _ => ?_))
      | exact ih0 _ _ _
      | exact almanackerref09_codes.mono _ _
      | exact LeO.none _
      | refine LeO.ite ?_ ?_
      | refine LeO.bind ?_ (fun _ => ?_)
set_option maxHeartbeats 8000000 in
set_option maxRecDepth 100000 in
theorem almanackerref09_Read.calls (k : Nat) (a0 : ByteArray) (r1 : Int) (r2 : Bool) (r3 : Bool) (w : World) (h : almanackerref09_Read.f k a0 = some (r1, r2, r3)) :
    Calls Tryd.prog 17 #[.string a0] w fun e w' => e = .returned (.tuple #[.agg #[.int .i64 r1, .bool r2], .bool r3]) ∧ Below w.heap.size w w' := by
  have hu23 := Tryd.underlying23
  have HB := Aside0.mk (Below.refl w.heap.size w)
  have H : ((almanackerref09_codes.f k true).bind fun t120 => (almanackerref09_Read.l0 k a0 t120 0)) = some (r1, r2, r3) := h
  clear h
  replace H := Option.bind_eq_some_iff.mp H
  obtain ⟨t120, A20, H⟩ := H
  replace H : (almanackerref09_Read.l0 k a0 t120 0) = some (r1, r2, r3) := H
  have A2 := Aside0.mk A20
  clear A20
  have H' := Aside0.mk H
  clear H
  go_enter Tryd.func17, Tryd.ntmps17
  go_wp2_with (first | ((with_reducible refine gate_dst (N := 2) rfl ?_); refine box_event ?hg (N := 2) ?hd (cs := #[.int .i64 0, .bool false]) (t := 23) ?hr ?_; (case hd => rfl); (case hg => rfl); (case hr => first | (go_simp; done) | (go_simp; rfl)); intro gb119 hg w3 hbox hb; have n0_ := Aside0.mk (below_step (by repeat (first | (with_reducible first | exact HB.out | apply below_alloc | apply pw_below_drewN | apply below_drew1) | exact HB.out)) hb); have n1_ := Aside0.mk (hbox); have n2_ := Aside0.mk ((by rw [hg]; exact (below_size (by repeat (first | (with_reducible first | exact HB.out | apply below_alloc | apply pw_below_drewN | apply below_drew1) | exact HB.out))) : w.heap.size ≤ gb119)); have n3_ := Aside0.mk ((by rw [hg]; exact (below_size (by repeat (first | (with_reducible first | exact HB.out | apply below_alloc | apply pw_below_drewN | apply below_drew1) | exact HB.out))) : w.heap.size ≤ gb119)); clear HB; have HB := n0_; have BK119 := n1_; have GW119 := n2_; have GE119 := n3_; clear n0_ n1_ n2_ n3_; clear hb hbox hg) | ((with_reducible refine gate_callee (f := 51) rfl ?_); refine goesL_ (some 8) rfl rfl Tryd.func51 (by kernel_rfl) rfl #[.bool true] rfl (by (try simp only [List.map_toArray, List.map_cons, List.map_nil]); first | done | rfl | (simp only [List.length_drop, List.length_take]; rfl)) ?_; (with_reducible refine (almanackerref09_codes.calls k true t120 _ A2.out).mono ?_); rintro e w4 ⟨v121, rfl, ho0, hb⟩; refine ⟨_, rfl, ?_⟩; have n0_ := Aside0.mk (Kd.R_lower (Kd.R_newB ho0 (g := gb119) (o := .cells #[.int .i64 0, .bool false] 23 (0, 0)) (by (with_reducible repeat (first | refine blk_drewN ?_ _ | refine blk_drew ?_ | refine blk_alloc ?_ _)); exact BK119.out)) (below_size (by repeat (first | (with_reducible first | exact HB.out | apply below_alloc | apply pw_below_drewN | apply below_drew1 | refine below_set ?_ GE119.out) | exact HB.out)))); have n1_ := Aside0.mk (blk_below (g := gb119) (o := .cells #[.int .i64 0, .bool false] 23 (0, 0)) (by (with_reducible repeat (first | refine blk_drewN ?_ _ | refine blk_drew ?_ | refine blk_alloc ?_ _)); exact BK119.out) hb); have n2_ := Aside0.mk (below_step (by repeat (first | (with_reducible first | exact HB.out | apply below_alloc | apply pw_below_drewN | apply below_drew1 | refine below_set ?_ GE119.out) | exact HB.out)) hb); clear BK119; clear HB; have HO122 := n0_; have BK119 := n1_; have HB := n2_; clear n0_ n1_ n2_; (try clear hb); (try clear hb2); (try clear hk); (try clear hi); (try clear ho0)))
  go_loopg [5] k (fun kq v5 w' => ∃ (x5_1 : Int) (x120000_1 : Int) (x120001_1 : Bool), v5 = .int .i64 x5_1 ∧ Aside0 (almanackerref09_Read.l0 kq a0 t120 x5_1 = some (r1, r2, r3)) ∧ Aside0 (kq ≤ k) ∧ Aside0 (Kd.R k23 23 w' w.heap.size (fun k_ => k_ ≠ gb119) v121 t120) ∧ Aside0 (w'.heap[gb119]? = some (.cells #[.int .i64 x120000_1, .bool x120001_1] 23 (0, 0))) ∧ Aside0 (Below w.heap.size w w'))
  case atStart => exact ⟨(0), (0), (false), (by first | rfl | (simp; done) | (simp [*]; done)), H', ⟨Nat.le_refl _⟩, ⟨by (with_reducible repeat (first | apply Kd.R_alloc | apply Kd.R_drewN | apply Kd.R_drew)); exact Kd.R_mono HO122.out (fun _ hk => hk.2)⟩, ⟨by (with_reducible repeat (first | refine blk_drewN ?_ _ | refine blk_drew ?_ | refine blk_alloc ?_ _)); exact BK119.out⟩, ⟨by repeat (first | (with_reducible first | exact HB.out | apply below_alloc | apply pw_below_drewN | apply below_drew1 | refine below_set ?_ GE119.out) | exact HB.out)⟩⟩
  case round =>
    clear H'
    try clear c1
    try clear p2
    obtain ⟨x5_1, x120000_1, x120001_1, rfl, HA, HK1, HO_4, BK119, HB⟩ := hrel
    cases gk with
    | zero => exact absurd HA.out (by simp [almanackerref09_Read.l0])
    | succ k1 =>
      have H := HA.out
      clear HA
      simp only [almanackerref09_Read.l0] at H
      by_cases c5 : x5_1 < (t120.length : Int)
      · rw [if_pos c5] at H
        have c5b0 : decide (x5_1 < (t120.length : Int)) = true := decide_eq_true c5
        clear c5
        by_cases c6 : 0 ≤ x5_1
        · rw [if_pos c6] at H
          have c6b0 : decide (0 ≤ x5_1) = true := decide_eq_true c6
          clear c6
          replace H := Option.bind_eq_some_iff.mp H
          obtain ⟨⟨t124, t125⟩, A70, H⟩ := H
          replace H : (if t124.toList = a0.toList then (some ((rd_T23 t120 x5_1).f0, (rd_T23 t120 x5_1).f1, true)) else (almanackerref09_Read.l0 k1 a0 t120 (wrap64 (x5_1 + 1)))) = some (r1, r2, r3) := H
          have A7 := Aside0.mk A70
          clear A70
          by_cases c8 : t124.toList = a0.toList
          · rw [if_pos c8] at H
            have c8b0 : (t124.toList == a0.toList) = true := beq_iff_eq.mpr c8
            have c8b1 : (t124.toList != a0.toList) = false := bne_eq_false_iff_eq.mpr c8
            clear c8
            simp only [Option.some.injEq, Prod.mk.injEq] at H
            obtain ⟨rfl, rfl, rfl⟩ := H
            obtain ⟨Ao9, co9, eo9⟩ := Kd.R_slice HO_4.out
            subst eo9
            have p123 : 0 ≤ (x5_1 : Int) := of_decide_eq_true (by first | (with_reducible assumption) | assumption)
            have q123 : x5_1 < (t120.length : Int) := of_decide_eq_true (by first | (with_reducible assumption) | assumption)
            obtain ⟨ad123, e123, hx123_0, hx123_1⟩ := at_T23 (Kd.R_reads' HO_4.out).2.2 x5_1 p123 q123
            cases e123
            replace p123 := eq_true p123
            replace q123 := eq_true q123
            go_wp2_with (first | ((with_reducible refine gate_callee (f := 15) rfl ?_); refine goesL_ (some 20) rfl rfl Tryd.func15 (by kernel_rfl) rfl #[.agg #[.int .i64 ((rd_T23 t120 x5_1).f0), .bool ((rd_T23 t120 x5_1).f1)]] rfl (by (try simp only [List.map_toArray, List.map_cons, List.map_nil]); first | done | rfl | (simp only [List.length_drop, List.length_take]; rfl)) ?_; (with_reducible refine (almanackerref09_Text.calls ((rd_T23 t120 x5_1).f0) ((rd_T23 t120 x5_1).f1) t124 t125 _ A7.out).mono ?_); rintro e w10 ⟨rfl, hb⟩; refine ⟨_, rfl, ?_⟩; have n0_ := Aside0.mk (Kd.R_below (by (with_reducible repeat (first | apply Kd.R_alloc | apply Kd.R_drewN | apply Kd.R_drew)); exact HO_4.out) hb); have n1_ := Aside0.mk (blk_below (g := gb119) (o := .cells #[.int .i64 x120000_1, .bool x120001_1] 23 (0, 0)) (by (with_reducible repeat (first | refine blk_drewN ?_ _ | refine blk_drew ?_ | refine blk_alloc ?_ _)); exact BK119.out) hb); have n2_ := Aside0.mk (below_step (by repeat (first | (with_reducible first | exact HB.out | apply below_alloc | apply pw_below_drewN | apply below_drew1 | refine below_set ?_ GE119.out) | exact HB.out)) hb); clear HO_4; clear BK119; clear HB; have HO_4 := n0_; have BK119 := n1_; have HB := n2_; clear n0_ n1_ n2_; (try clear hb); (try clear hb2); (try clear hk); (try clear hi); have p126 : 0 ≤ (x5_1 : Int) := of_decide_eq_true (by first | (with_reducible assumption) | assumption); have q126 : x5_1 < (t120.length : Int) := of_decide_eq_true (by first | (with_reducible assumption) | assumption); obtain ⟨ad126, e126, hx126_0, hx126_1⟩ := at_T23 (Kd.R_reads' HO_4.out).2.2 x5_1 p126 q126; obtain rfl : ad123 = ad126 := (by injection e126); replace p126 := eq_true p126; replace q126 := eq_true q126; have hcz11_0 : w10.cell? ⟨gb119, 0, none⟩ = some (.int .i64 x120000_1) := (blk_cell BK119.out 0).trans rfl; have hcz11_1 : w10.cell? ⟨gb119, 1, none⟩ = some (.bool x120001_1) := (blk_cell BK119.out 1).trans rfl; have hfz11_0 := blk_frozen BK119.out 0; have hfz11_1 := blk_frozen BK119.out 1))
            refine bodyPost_ret (results_ct rfl _ _ gb119 23 #[.int .i64 ((rd_T23 t120 x5_1).f0), .bool ((rd_T23 t120 x5_1).f1)] (0, 0) _ rfl (by (with_reducible repeat (first | refine blk_drewN ?_ _ | refine blk_drew ?_ | refine blk_alloc ?_ _)); refine blk_put (cs := #[.int .i64 ((rd_T23 t120 x5_1).f0), .bool x120001_1]) ?_ 1 _ rfl; (with_reducible repeat (first | refine blk_drewN ?_ _ | refine blk_drew ?_ | refine blk_alloc ?_ _)); refine blk_put (cs := #[.int .i64 x120000_1, .bool x120001_1]) ?_ 0 _ rfl; (with_reducible repeat (first | refine blk_drewN ?_ _ | refine blk_drew ?_ | refine blk_alloc ?_ _)); exact BK119.out) Tryd.underlying23 rfl (by kernel_rfl)) rfl ?_
            exact ⟨by first | rfl | (simp [errW_none, errW_some] <;> rfl) | (simp [*, errW_none, errW_some] <;> rfl), by repeat (first | (with_reducible first | exact HB.out | apply below_alloc | apply pw_below_drewN | apply below_drew1 | refine below_set ?_ GE119.out) | exact HB.out)⟩
          · rw [if_neg c8] at H
            have c8b0 : (t124.toList == a0.toList) = false := beq_eq_false_iff_ne.mpr c8
            have c8b1 : (t124.toList != a0.toList) = true := bne_iff_ne.mpr c8
            have H' := Aside0.mk H
            clear H
            obtain ⟨Ao12, co12, eo12⟩ := Kd.R_slice HO_4.out
            subst eo12
            have p123 : 0 ≤ (x5_1 : Int) := of_decide_eq_true (by first | (with_reducible assumption) | assumption)
            have q123 : x5_1 < (t120.length : Int) := of_decide_eq_true (by first | (with_reducible assumption) | assumption)
            obtain ⟨ad123, e123, hx123_0, hx123_1⟩ := at_T23 (Kd.R_reads' HO_4.out).2.2 x5_1 p123 q123
            cases e123
            replace p123 := eq_true p123
            replace q123 := eq_true q123
            go_wp2_with (first | ((with_reducible refine gate_callee (f := 15) rfl ?_); refine goesL_ (some 20) rfl rfl Tryd.func15 (by kernel_rfl) rfl #[.agg #[.int .i64 ((rd_T23 t120 x5_1).f0), .bool ((rd_T23 t120 x5_1).f1)]] rfl (by (try simp only [List.map_toArray, List.map_cons, List.map_nil]); first | done | rfl | (simp only [List.length_drop, List.length_take]; rfl)) ?_; (with_reducible refine (almanackerref09_Text.calls ((rd_T23 t120 x5_1).f0) ((rd_T23 t120 x5_1).f1) t124 t125 _ A7.out).mono ?_); rintro e w13 ⟨rfl, hb⟩; refine ⟨_, rfl, ?_⟩; have n0_ := Aside0.mk (Kd.R_below (by (with_reducible repeat (first | apply Kd.R_alloc | apply Kd.R_drewN | apply Kd.R_drew)); exact HO_4.out) hb); have n1_ := Aside0.mk (blk_below (g := gb119) (o := .cells #[.int .i64 x120000_1, .bool x120001_1] 23 (0, 0)) (by (with_reducible repeat (first | refine blk_drewN ?_ _ | refine blk_drew ?_ | refine blk_alloc ?_ _)); exact BK119.out) hb); have n2_ := Aside0.mk (below_step (by repeat (first | (with_reducible first | exact HB.out | apply below_alloc | apply pw_below_drewN | apply below_drew1 | refine below_set ?_ GE119.out) | exact HB.out)) hb); clear HO_4; clear BK119; clear HB; have HO_4 := n0_; have BK119 := n1_; have HB := n2_; clear n0_ n1_ n2_; (try clear hb); (try clear hb2); (try clear hk); (try clear hi)))
            go_roundg k1
            case measure => have := HK1.out; omega
            case rel => exact ⟨(wrap64 (x5_1 + 1)), (x120000_1), (x120001_1), (by first | rfl | (simp; done) | (simp [*]; done)), H', ⟨by have := HK1.out; omega⟩, ⟨by (with_reducible repeat (first | apply Kd.R_alloc | apply Kd.R_drewN | apply Kd.R_drew)); exact HO_4.out⟩, ⟨by (with_reducible repeat (first | refine blk_drewN ?_ _ | refine blk_drew ?_ | refine blk_alloc ?_ _)); exact BK119.out⟩, ⟨by repeat (first | (with_reducible first | exact HB.out | apply below_alloc | apply pw_below_drewN | apply below_drew1 | refine below_set ?_ GE119.out) | exact HB.out)⟩⟩
        · rw [if_neg c6] at H
          exact absurd H (by simp)
      · rw [if_neg c5] at H
        have c5b0 : decide (x5_1 < (t120.length : Int)) = false := decide_eq_false c5
        clear c5
        simp only [Option.some.injEq, Prod.mk.injEq] at H
        obtain ⟨rfl, rfl, rfl⟩ := H
        obtain ⟨Ao14, co14, eo14⟩ := Kd.R_slice HO_4.out
        subst eo14
        have hcz15_0 : wr.cell? ⟨gb119, 0, none⟩ = some (.int .i64 x120000_1) := (blk_cell BK119.out 0).trans rfl
        have hcz15_1 : wr.cell? ⟨gb119, 1, none⟩ = some (.bool x120001_1) := (blk_cell BK119.out 1).trans rfl
        have hfz15_0 := blk_frozen BK119.out 0
        have hfz15_1 := blk_frozen BK119.out 1
        go_wp2
        refine bodyPost_ret (results_ct rfl _ _ gb119 23 #[.int .i64 0, .bool false] (0, 0) _ rfl (by (with_reducible repeat (first | refine blk_drewN ?_ _ | refine blk_drew ?_ | refine blk_alloc ?_ _)); refine blk_put (cs := #[.int .i64 0, .bool x120001_1]) ?_ 1 _ rfl; (with_reducible repeat (first | refine blk_drewN ?_ _ | refine blk_drew ?_ | refine blk_alloc ?_ _)); refine blk_put (cs := #[.int .i64 x120000_1, .bool x120001_1]) ?_ 0 _ rfl; (with_reducible repeat (first | refine blk_drewN ?_ _ | refine blk_drew ?_ | refine blk_alloc ?_ _)); exact BK119.out) Tryd.underlying23 rfl (by kernel_rfl)) rfl ?_
        exact ⟨by first | rfl | (simp [errW_none, errW_some] <;> rfl) | (simp [*, errW_none, errW_some] <;> rfl), by repeat (first | (with_reducible first | exact HB.out | apply below_alloc | apply pw_below_drewN | apply below_drew1 | refine below_set ?_ GE119.out) | exact HB.out)⟩

/-! ### code_Less: function 20 -/
def code_Less.f (a0_0 : Int) (a0_1 : Bool) (a1_0 : Int) (a1_1 : Bool) : Option (Bool) := if a0_0 = a1_0 then (if a1_1 = true then (some (!a0_1)) else (some false)) else (some (decide (a0_0 < a1_0)))
set_option maxHeartbeats 8000000 in
set_option maxRecDepth 100000 in
theorem code_Less.calls (a0_0 : Int) (a0_1 : Bool) (a1_0 : Int) (a1_1 : Bool) (r : Bool) (w : World) (h : code_Less.f a0_0 a0_1 a1_0 a1_1 = some r) :
    Calls Tryd.prog 20 #[.agg #[.int .i64 a0_0, .bool a0_1], .agg #[.int .i64 a1_0, .bool a1_1]] w fun e w' => e = .returned (.bool r) ∧ Below w.heap.size w w' := by
  have hu23 := Tryd.underlying23
  have HB := Aside0.mk (Below.refl w.heap.size w)
  have H : (if a0_0 = a1_0 then (if a1_1 = true then (some (!a0_1)) else (some false)) else (some (decide (a0_0 < a1_0)))) = some r := h
  clear h
  by_cases c3 : a0_0 = a1_0
  · rw [if_pos c3] at H
    have c3b0 : (a0_0 == a1_0) = true := beq_iff_eq.mpr c3
    have c3b1 : (a0_0 != a1_0) = false := bne_eq_false_iff_eq.mpr c3
    clear c3
    by_cases c4 : a1_1 = true
    · subst c4
      have H1 : (some (!a0_1)) = some r := by rw [if_pos rfl] at H; exact H
      clear H
      have H := H1
      clear H1
      obtain rfl := Option.some.inj H
      go_enter Tryd.func20, Tryd.ntmps20
      go_wp2_with (first | ((with_reducible refine gate_dst (N := 2) rfl ?_); refine box_event ?hg (N := 2) ?hd (cs := #[.int .i64 a0_0, .bool a0_1]) (t := 23) ?hr ?_; (case hd => rfl); (case hg => rfl); (case hr => first | (go_simp; done) | (go_simp; rfl)); intro gb127 hg w5 hbox hb; have n0_ := Aside0.mk (below_step (by repeat (first | (with_reducible first | exact HB.out | apply below_alloc | apply pw_below_drewN | apply below_drew1) | exact HB.out)) hb); have n1_ := Aside0.mk (hbox); have n2_ := Aside0.mk ((by rw [hg]; exact (below_size (by repeat (first | (with_reducible first | exact HB.out | apply below_alloc | apply pw_below_drewN | apply below_drew1) | exact HB.out))) : w.heap.size ≤ gb127)); have n3_ := Aside0.mk ((by rw [hg]; exact (below_size (by repeat (first | (with_reducible first | exact HB.out | apply below_alloc | apply pw_below_drewN | apply below_drew1) | exact HB.out))) : w.heap.size ≤ gb127)); clear HB; have HB := n0_; have BK127 := n1_; have GW127 := n2_; have GE127 := n3_; clear n0_ n1_ n2_ n3_; clear hb hbox hg) | ((with_reducible refine gate_dst (N := 3) rfl ?_); refine box_event ?hg (N := 3) ?hd (cs := #[.int .i64 a1_0, .bool true]) (t := 23) ?hr ?_; (case hd => rfl); (case hg => rfl); (case hr => first | (go_simp; done) | (go_simp; rfl)); intro gb128 hg w6 hbox hb; have n0_ := Aside0.mk (blk_below (g := gb127) (o := .cells #[.int .i64 a0_0, .bool a0_1] 23 (0, 0)) (by (with_reducible repeat (first | refine blk_drewN ?_ _ | refine blk_drew ?_ | refine blk_alloc ?_ _)); exact BK127.out) hb); have n1_ := Aside0.mk (below_step (by repeat (first | (with_reducible first | exact HB.out | apply below_alloc | apply pw_below_drewN | apply below_drew1 | refine below_set ?_ GE127.out) | exact HB.out)) hb); have n2_ := Aside0.mk (hbox); have n3_ := Aside0.mk ((by rw [hg]; exact (below_size (by repeat (first | (with_reducible first | exact HB.out | apply below_alloc | apply pw_below_drewN | apply below_drew1 | refine below_set ?_ GE127.out) | exact HB.out))) : w.heap.size ≤ gb128)); have n4_ := Aside0.mk ((by rw [hg]; exact (below_size (by repeat (first | (with_reducible first | exact HB.out | apply below_alloc | apply pw_below_drewN | apply below_drew1 | refine below_set ?_ GE127.out) | exact HB.out))) : w.heap.size ≤ gb128)); have n5_ := Aside0.mk ((by rw [hg]; exact Nat.ne_of_lt (blk_lt (g := gb127) (o := .cells #[.int .i64 a0_0, .bool a0_1] 23 (0, 0)) (by (with_reducible repeat (first | refine blk_drewN ?_ _ | refine blk_drew ?_ | refine blk_alloc ?_ _)); exact BK127.out)) : gb127 ≠ gb128)); have n6_ := Aside0.mk ((by rw [hg]; exact Nat.ne_of_gt (blk_lt (g := gb127) (o := .cells #[.int .i64 a0_0, .bool a0_1] 23 (0, 0)) (by (with_reducible repeat (first | refine blk_drewN ?_ _ | refine blk_drew ?_ | refine blk_alloc ?_ _)); exact BK127.out)) : gb128 ≠ gb127)); clear BK127; clear HB; have BK127 := n0_; have HB := n1_; have BK128 := n2_; have GW128 := n3_; have GE128 := n4_; have NB127_128 := n5_; have NB128_127 := n6_; clear n0_ n1_ n2_ n3_ n4_ n5_ n6_; clear hb hbox hg; have hnb7 := NB127_128.out; have hnc7 := NB128_127.out; have hcz8_0 : w6.cell? ⟨gb127, 0, none⟩ = some (.int .i64 a0_0) := (blk_cell BK127.out 0).trans rfl; have hcz8_1 : w6.cell? ⟨gb127, 1, none⟩ = some (.bool a0_1) := (blk_cell BK127.out 1).trans rfl; have hfz8_0 := blk_frozen BK127.out 0; have hfz8_1 := blk_frozen BK127.out 1; have hcz9_0 : w6.cell? ⟨gb128, 0, none⟩ = some (.int .i64 a1_0) := (blk_cell BK128.out 0).trans rfl; have hcz9_1 : w6.cell? ⟨gb128, 1, none⟩ = some (.bool true) := (blk_cell BK128.out 1).trans rfl; have hfz9_0 := blk_frozen BK128.out 0; have hfz9_1 := blk_frozen BK128.out 1))
      go_ret
      exact ⟨by first | rfl | (simp [errW_none, errW_some] <;> rfl) | (simp [*, errW_none, errW_some] <;> rfl), by repeat (first | (with_reducible first | exact HB.out | apply below_alloc | apply pw_below_drewN | apply below_drew1 | refine below_set ?_ GE127.out | refine below_set ?_ GE128.out) | exact HB.out)⟩
    · replace c4 := Bool.eq_false_iff.mpr c4
      subst c4
      have H1 : (some false) = some r := by rw [if_neg (show ¬ (false = true) by decide)] at H; exact H
      clear H
      have H := H1
      clear H1
      obtain rfl := Option.some.inj H
      go_enter Tryd.func20, Tryd.ntmps20
      go_wp2_with (first | ((with_reducible refine gate_dst (N := 2) rfl ?_); refine box_event ?hg (N := 2) ?hd (cs := #[.int .i64 a0_0, .bool a0_1]) (t := 23) ?hr ?_; (case hd => rfl); (case hg => rfl); (case hr => first | (go_simp; done) | (go_simp; rfl)); intro gb127 hg w10 hbox hb; have n0_ := Aside0.mk (below_step (by repeat (first | (with_reducible first | exact HB.out | apply below_alloc | apply pw_below_drewN | apply below_drew1) | exact HB.out)) hb); have n1_ := Aside0.mk (hbox); have n2_ := Aside0.mk ((by rw [hg]; exact (below_size (by repeat (first | (with_reducible first | exact HB.out | apply below_alloc | apply pw_below_drewN | apply below_drew1) | exact HB.out))) : w.heap.size ≤ gb127)); have n3_ := Aside0.mk ((by rw [hg]; exact (below_size (by repeat (first | (with_reducible first | exact HB.out | apply below_alloc | apply pw_below_drewN | apply below_drew1) | exact HB.out))) : w.heap.size ≤ gb127)); clear HB; have HB := n0_; have BK127 := n1_; have GW127 := n2_; have GE127 := n3_; clear n0_ n1_ n2_ n3_; clear hb hbox hg) | ((with_reducible refine gate_dst (N := 3) rfl ?_); refine box_event ?hg (N := 3) ?hd (cs := #[.int .i64 a1_0, .bool false]) (t := 23) ?hr ?_; (case hd => rfl); (case hg => rfl); (case hr => first | (go_simp; done) | (go_simp; rfl)); intro gb128 hg w11 hbox hb; have n0_ := Aside0.mk (blk_below (g := gb127) (o := .cells #[.int .i64 a0_0, .bool a0_1] 23 (0, 0)) (by (with_reducible repeat (first | refine blk_drewN ?_ _ | refine blk_drew ?_ | refine blk_alloc ?_ _)); exact BK127.out) hb); have n1_ := Aside0.mk (below_step (by repeat (first | (with_reducible first | exact HB.out | apply below_alloc | apply pw_below_drewN | apply below_drew1 | refine below_set ?_ GE127.out) | exact HB.out)) hb); have n2_ := Aside0.mk (hbox); have n3_ := Aside0.mk ((by rw [hg]; exact (below_size (by repeat (first | (with_reducible first | exact HB.out | apply below_alloc | apply pw_below_drewN | apply below_drew1 | refine below_set ?_ GE127.out) | exact HB.out))) : w.heap.size ≤ gb128)); have n4_ := Aside0.mk ((by rw [hg]; exact (below_size (by repeat (first | (with_reducible first | exact HB.out | apply below_alloc | apply pw_below_drewN | apply below_drew1 | refine below_set ?_ GE127.out) | exact HB.out))) : w.heap.size ≤ gb128)); have n5_ := Aside0.mk ((by rw [hg]; exact Nat.ne_of_lt (blk_lt (g := gb127) (o := .cells #[.int .i64 a0_0, .bool a0_1] 23 (0, 0)) (by (with_reducible repeat (first | refine blk_drewN ?_ _ | refine blk_drew ?_ | refine blk_alloc ?_ _)); exact BK127.out)) : gb127 ≠ gb128)); have n6_ := Aside0.mk ((by rw [hg]; exact Nat.ne_of_gt (blk_lt (g := gb127) (o := .cells #[.int .i64 a0_0, .bool a0_1] 23 (0, 0)) (by (with_reducible repeat (first | refine blk_drewN ?_ _ | refine blk_drew ?_ | refine blk_alloc ?_ _)); exact BK127.out)) : gb128 ≠ gb127)); clear BK127; clear HB; have BK127 := n0_; have HB := n1_; have BK128 := n2_; have GW128 := n3_; have GE128 := n4_; have NB127_128 := n5_; have NB128_127 := n6_; clear n0_ n1_ n2_ n3_ n4_ n5_ n6_; clear hb hbox hg; have hnb12 := NB127_128.out; have hnc12 := NB128_127.out; have hcz13_0 : w11.cell? ⟨gb127, 0, none⟩ = some (.int .i64 a0_0) := (blk_cell BK127.out 0).trans rfl; have hcz13_1 : w11.cell? ⟨gb127, 1, none⟩ = some (.bool a0_1) := (blk_cell BK127.out 1).trans rfl; have hfz13_0 := blk_frozen BK127.out 0; have hfz13_1 := blk_frozen BK127.out 1; have hcz14_0 : w11.cell? ⟨gb128, 0, none⟩ = some (.int .i64 a1_0) := (blk_cell BK128.out 0).trans rfl; have hcz14_1 : w11.cell? ⟨gb128, 1, none⟩ = some (.bool false) := (blk_cell BK128.out 1).trans rfl; have hfz14_0 := blk_frozen BK128.out 0; have hfz14_1 := blk_frozen BK128.out 1))
      go_ret
      exact ⟨by first | rfl | (simp [errW_none, errW_some] <;> rfl) | (simp [*, errW_none, errW_some] <;> rfl), by repeat (first | (with_reducible first | exact HB.out | apply below_alloc | apply pw_below_drewN | apply below_drew1 | refine below_set ?_ GE127.out | refine below_set ?_ GE128.out) | exact HB.out)⟩
  · rw [if_neg c3] at H
    have c3b0 : (a0_0 == a1_0) = false := beq_eq_false_iff_ne.mpr c3
    have c3b1 : (a0_0 != a1_0) = true := bne_iff_ne.mpr c3
    obtain rfl := Option.some.inj H
    go_enter Tryd.func20, Tryd.ntmps20
    go_wp2_with (first | ((with_reducible refine gate_dst (N := 2) rfl ?_); refine box_event ?hg (N := 2) ?hd (cs := #[.int .i64 a0_0, .bool a0_1]) (t := 23) ?hr ?_; (case hd => rfl); (case hg => rfl); (case hr => first | (go_simp; done) | (go_simp; rfl)); intro gb127 hg w15 hbox hb; have n0_ := Aside0.mk (below_step (by repeat (first | (with_reducible first | exact HB.out | apply below_alloc | apply pw_below_drewN | apply below_drew1) | exact HB.out)) hb); have n1_ := Aside0.mk (hbox); have n2_ := Aside0.mk ((by rw [hg]; exact (below_size (by repeat (first | (with_reducible first | exact HB.out | apply below_alloc | apply pw_below_drewN | apply below_drew1) | exact HB.out))) : w.heap.size ≤ gb127)); have n3_ := Aside0.mk ((by rw [hg]; exact (below_size (by repeat (first | (with_reducible first | exact HB.out | apply below_alloc | apply pw_below_drewN | apply below_drew1) | exact HB.out))) : w.heap.size ≤ gb127)); clear HB; have HB := n0_; have BK127 := n1_; have GW127 := n2_; have GE127 := n3_; clear n0_ n1_ n2_ n3_; clear hb hbox hg) | ((with_reducible refine gate_dst (N := 3) rfl ?_); refine box_event ?hg (N := 3) ?hd (cs := #[.int .i64 a1_0, .bool a1_1]) (t := 23) ?hr ?_; (case hd => rfl); (case hg => rfl); (case hr => first | (go_simp; done) | (go_simp; rfl)); intro gb128 hg w16 hbox hb; have n0_ := Aside0.mk (blk_below (g := gb127) (o := .cells #[.int .i64 a0_0, .bool a0_1] 23 (0, 0)) (by (with_reducible repeat (first | refine blk_drewN ?_ _ | refine blk_drew ?_ | refine blk_alloc ?_ _)); exact BK127.out) hb); have n1_ := Aside0.mk (below_step (by repeat (first | (with_reducible first | exact HB.out | apply below_alloc | apply pw_below_drewN | apply below_drew1 | refine below_set ?_ GE127.out) | exact HB.out)) hb); have n2_ := Aside0.mk (hbox); have n3_ := Aside0.mk ((by rw [hg]; exact (below_size (by repeat (first | (with_reducible first | exact HB.out | apply below_alloc | apply pw_below_drewN | apply below_drew1 | refine below_set ?_ GE127.out) | exact HB.out))) : w.heap.size ≤ gb128)); have n4_ := Aside0.mk ((by rw [hg]; exact (below_size (by repeat (first | (with_reducible first | exact HB.out | apply below_alloc | apply pw_below_drewN | apply below_drew1 | refine below_set ?_ GE127.out) | exact HB.out))) : w.heap.size ≤ gb128)); have n5_ := Aside0.mk ((by rw [hg]; exact Nat.ne_of_lt (blk_lt (g := gb127) (o := .cells #[.int .i64 a0_0, .bool a0_1] 23 (0, 0)) (by (with_reducible repeat (first | refine blk_drewN ?_ _ | refine blk_drew ?_ | refine blk_alloc ?_ _)); exact BK127.out)) : gb127 ≠ gb128)); have n6_ := Aside0.mk ((by rw [hg]; exact Nat.ne_of_gt (blk_lt (g := gb127) (o := .cells #[.int .i64 a0_0, .bool a0_1] 23 (0, 0)) (by (with_reducible repeat (first | refine blk_drewN ?_ _ | refine blk_drew ?_ | refine blk_alloc ?_ _)); exact BK127.out)) : gb128 ≠ gb127)); clear BK127; clear HB; have BK127 := n0_; have HB := n1_; have BK128 := n2_; have GW128 := n3_; have GE128 := n4_; have NB127_128 := n5_; have NB128_127 := n6_; clear n0_ n1_ n2_ n3_ n4_ n5_ n6_; clear hb hbox hg; have hnb17 := NB127_128.out; have hnc17 := NB128_127.out; have hcz18_0 : w16.cell? ⟨gb127, 0, none⟩ = some (.int .i64 a0_0) := (blk_cell BK127.out 0).trans rfl; have hcz18_1 : w16.cell? ⟨gb127, 1, none⟩ = some (.bool a0_1) := (blk_cell BK127.out 1).trans rfl; have hfz18_0 := blk_frozen BK127.out 0; have hfz18_1 := blk_frozen BK127.out 1; have hcz19_0 : w16.cell? ⟨gb128, 0, none⟩ = some (.int .i64 a1_0) := (blk_cell BK128.out 0).trans rfl; have hcz19_1 : w16.cell? ⟨gb128, 1, none⟩ = some (.bool a1_1) := (blk_cell BK128.out 1).trans rfl; have hfz19_0 := blk_frozen BK128.out 0; have hfz19_1 := blk_frozen BK128.out 1))
    go_ret
    exact ⟨by first | rfl | (simp [errW_none, errW_some] <;> rfl) | (simp [*, errW_none, errW_some] <;> rfl), by repeat (first | (with_reducible first | exact HB.out | apply below_alloc | apply pw_below_drewN | apply below_drew1 | refine below_set ?_ GE127.out | refine below_set ?_ GE128.out) | exact HB.out)⟩

end Go.Proofs.YtflpddhoiafhcaaDoor.C
