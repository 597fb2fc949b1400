/- Texts of the proof of 'SpecialDays', joined by a program (part 5): contracts of functions, plain laws. -/
import Derived.Test.YtflpddhoiafhcaaDoorJSpecialDays2
import Derived.Test.YtflpddhoiafhcaaDoorJSpecialDays4
set_option linter.unusedVariables false
set_option linter.unusedSimpArgs false
section
-- Written by wip/hprint.py of this repo (holes typed by hand, all else by a program) over the seat YtflpddhoiafhcaaDoor.
namespace Go.Proofs.YtflpddhoiafhcaaDoor.S
open Go.Proofs.YtflpddhoiafhcaaDoor.H
open Go.RowKit Go.Proofs.YtflpddhoiafhcaaDoorW.PrintWords Go.Proofs.YtflpddhoiafhcaaDoorW.PrintLast Go.Proofs.YtflpddhoiafhcaaDoorW.PrintMore
attribute [local go_sem] max2_int min2_int max_two min_two max_three min_three max_four min_four   -- for this text's walks alone
set_option linter.unusedVariables false
set_option linter.unusedSimpArgs false

mutual
def almanackerref05_Delay.j0 : Nat → Bool → Int → Int → Bool → Int → Int → Option (Int)
  | 0, _, _, _, _, _, _ => none
  | k + 1, x2, x7, x8, x25, x269000, x269001 => if x25 = true then (if (Int.tmod (wrap64 (x7 + 1)) 7) = 0 then (some (1 + 1)) else (if (Int.tmod (wrap64 (x7 + 1)) 7) = 3 then (some (1 + 1)) else (if (Int.tmod (wrap64 (x7 + 1)) 7) = 5 then (some (1 + 1)) else (some 1)))) else (if x2 = true then (if x7 = 1 then (almanackerref05_Delay.j1 k x7 x8 (decide (x269001 ≥ 16789))) else (almanackerref05_Delay.j1 k x7 x8 false)) else (almanackerref05_Delay.j1 k x7 x8 false))
def almanackerref05_Delay.j1 : Nat → Int → Int → Bool → Option (Int)
  | 0, _, _, _ => none
  | k + 1, x7, x8, x35 => if x35 = true then (if (Int.tmod (wrap64 (x7 + 1)) 7) = 0 then (some (1 + 1)) else (if (Int.tmod (wrap64 (x7 + 1)) 7) = 3 then (some (1 + 1)) else (if (Int.tmod (wrap64 (x7 + 1)) 7) = 5 then (some (1 + 1)) else (some 1)))) else (if (Int.tmod (wrap64 (x7 + x8)) 7) = 0 then (some (wrap64 (x8 + 1))) else (if (Int.tmod (wrap64 (x7 + x8)) 7) = 3 then (some (wrap64 (x8 + 1))) else (if (Int.tmod (wrap64 (x7 + x8)) 7) = 5 then (some (wrap64 (x8 + 1))) else (some x8))))
end
def almanackerref05_Delay.f (k : Nat) (a0_0 : Int) (a0_1 : Int) (a1 : Bool) (a2 : Bool) : Option (Int) := (almanackerref04_Weekday.f a0_0).bind fun t269 => (if a0_1 ≥ 19440 then (if (Int.tmod (wrap64 (t269 + 1)) 7) = 0 then (some (1 + 1)) else (if (Int.tmod (wrap64 (t269 + 1)) 7) = 3 then (some (1 + 1)) else (if (Int.tmod (wrap64 (t269 + 1)) 7) = 5 then (some (1 + 1)) else (some 1)))) else (if a1 = true then (almanackerref05_Delay.j0 k a2 t269 0 false a0_0 a0_1) else (if t269 = 2 then (almanackerref05_Delay.j0 k a2 t269 0 (decide (a0_1 ≥ 9924)) a0_0 a0_1) else (almanackerref05_Delay.j0 k a2 t269 0 false a0_0 a0_1))))
theorem almanackerref05_Delay.mono_l : ∀ k, (∀ y0 y1 y2 y3 y4 y5, LeO (almanackerref05_Delay.j0 k y0 y1 y2 y3 y4 y5) (almanackerref05_Delay.j0 (k + 1) y0 y1 y2 y3 y4 y5)) ∧ (∀ y0 y1 y2, LeO (almanackerref05_Delay.j1 k y0 y1 y2) (almanackerref05_Delay.j1 (k + 1) y0 y1 y2))
  | 0 => ⟨fun _ _ _ _ _ _ r h => by simp [almanackerref05_Delay.j0] at h, fun _ _ _ r h => by simp [almanackerref05_Delay.j1] at h⟩
  | k + 1 => by
    obtain ⟨ih0, ih1⟩ := almanackerref05_Delay.mono_l k
    refine ⟨?_, ?_⟩
    · intro y0 y1 y2 y3 y4 y5
      unfold almanackerref05_Delay.j0
      repeat' first
      | (with_reducible exact ih0 _ _ _ _ _ _)
      | (with_reducible exact ih1 _ _ _)
      | (with_reducible exact LeO.refl _)
      | (with_reducible exact LeO.none _)
      | (with_reducible refine LeO.ite ?_ ?_)
      | (with_reducible refine LeO.bind ?_ (fun _ => ?_))
      | exact ih0 _ _ _ _ _ _
      | exact ih1 _ _ _
      | exact LeO.none _
      | refine LeO.ite ?_ ?_
      | refine LeO.bind ?_ (fun _ => ?_)
    · intro y0 y1 y2
      unfold almanackerref05_Delay.j1
      repeat' first
      | (with_reducible exact ih0 _ _ _ _ _ _)
      | (with_reducible exact ih1 _ _ _)
      | (with_reducible exact LeO.refl _)
      | (with_reducible exact LeO.none _)
      | (with_reducible refine LeO.ite ?_ ?_)
      | (with_reducible refine LeO.bind ?_ (fun _ => ?_))
      | exact ih0 _ _ _ _ _ _
      | exact ih1 _ _ _
      | exact LeO.none _
      | refine LeO.ite ?_ ?_
      | refine LeO.bind ?_ (fun _ => ?_)
theorem almanackerref05_Delay.mono : ∀ a0 a1 a2 a3 k, LeO (almanackerref05_Delay.f k a0 a1 a2 a3) (almanackerref05_Delay.f (k + 1) a0 a1 a2 a3) := by
  intro a0 a1 a2 a3 k
  obtain ⟨ih0, ih1⟩ := almanackerref05_Delay.mono_l k
  unfold almanackerref05_Delay.f
  repeat' first
      | (with_reducible exact ih0 _ _ _ _ _ _)
      | (with_reducible exact ih1 _ _ _)
      | (with_reducible exact LeO.refl _)
      | (with_reducible exact LeO.none _)
      | (with_reducible refine LeO.ite ?_ ?_)
      | (with_reducible refine LeO.bind ?_ (fun _ => ?_))
      | exact ih0 _ _ _ _ _ _
      | exact ih1 _ _ _
      | exact LeO.none _
      | refine LeO.ite ?_ ?_
      | refine LeO.bind ?_ (fun _ => ?_)
set_option maxHeartbeats 8000000 in
set_option maxRecDepth 100000 in
theorem almanackerref05_Delay.calls (k : Nat) (a0_0 : Int) (a0_1 : Int) (a1 : Bool) (a2 : Bool) (r : Int) (w : World) (h : almanackerref05_Delay.f k a0_0 a0_1 a1 a2 = some r) :
    Calls Tryd.prog 59 #[.agg #[.int .i64 a0_0, .int .i64 a0_1], .bool a1, .bool a2] w fun e w' => e = .returned (.int .i64 r) ∧ Below w.heap.size w w' := by
  have hu86 := Tryd.underlying86
  have HB := Aside0.mk (Below.refl w.heap.size w)
  have H : ((almanackerref04_Weekday.f a0_0).bind fun t269 => (if a0_1 ≥ 19440 then (if (Int.tmod (wrap64 (t269 + 1)) 7) = 0 then (some (1 + 1)) else (if (Int.tmod (wrap64 (t269 + 1)) 7) = 3 then (some (1 + 1)) else (if (Int.tmod (wrap64 (t269 + 1)) 7) = 5 then (some (1 + 1)) else (some 1)))) else (if a1 = true then (almanackerref05_Delay.j0 k a2 t269 0 false a0_0 a0_1) else (if t269 = 2 then (almanackerref05_Delay.j0 k a2 t269 0 (decide (a0_1 ≥ 9924)) a0_0 a0_1) else (almanackerref05_Delay.j0 k a2 t269 0 false a0_0 a0_1))))) = some r := h
  clear h
  replace H := Option.bind_eq_some_iff.mp H
  obtain ⟨t269, A40, H⟩ := H
  replace H : (if a0_1 ≥ 19440 then (if (Int.tmod (wrap64 (t269 + 1)) 7) = 0 then (some (1 + 1)) else (if (Int.tmod (wrap64 (t269 + 1)) 7) = 3 then (some (1 + 1)) else (if (Int.tmod (wrap64 (t269 + 1)) 7) = 5 then (some (1 + 1)) else (some 1)))) else (if a1 = true then (almanackerref05_Delay.j0 k a2 t269 0 false a0_0 a0_1) else (if t269 = 2 then (almanackerref05_Delay.j0 k a2 t269 0 (decide (a0_1 ≥ 9924)) a0_0 a0_1) else (almanackerref05_Delay.j0 k a2 t269 0 false a0_0 a0_1)))) = some r := H
  have A4 := Aside0.mk A40
  clear A40
  by_cases c5 : a0_1 ≥ 19440
  · rw [if_pos c5] at H
    have c5b0 : decide (19440 ≤ a0_1) = true := decide_eq_true c5
    clear c5
    by_cases c6 : (Int.tmod (wrap64 (t269 + 1)) 7) = 0
    · rw [if_pos c6] at H
      have c6b0 : ((Int.tmod (wrap64 (t269 + 1)) 7) == 0) = true := beq_iff_eq.mpr c6
      have c6b1 : ((Int.tmod (wrap64 (t269 + 1)) 7) != 0) = false := bne_eq_false_iff_eq.mpr c6
      clear c6
      obtain rfl := Option.some.inj H
      go_enter Tryd.func59, Tryd.ntmps59
      go_wp2_with (first | ((with_reducible refine gate_dst (N := 3) rfl ?_); refine box_event ?hg (N := 3) ?hd (cs := #[.int .i64 a0_0, .int .i64 a0_1]) (t := 86) ?hr ?_; (case hd => rfl); (case hg => rfl); (case hr => first | (go_simp; done) | (go_simp; rfl)); intro gb268 hg w7 hbox hb; have n0_ := Aside0.mk (below_step (by repeat (first | (with_reducible first | exact HB.out | apply below_alloc | apply pw_below_drewN | apply below_drew1) | exact HB.out)) hb); have n1_ := Aside0.mk (hbox); have n2_ := Aside0.mk ((by rw [hg]; exact (below_size (by repeat (first | (with_reducible first | exact HB.out | apply below_alloc | apply pw_below_drewN | apply below_drew1) | exact HB.out))) : w.heap.size ≤ gb268)); have n3_ := Aside0.mk ((by rw [hg]; exact (below_size (by repeat (first | (with_reducible first | exact HB.out | apply below_alloc | apply pw_below_drewN | apply below_drew1) | exact HB.out))) : w.heap.size ≤ gb268)); clear HB; have HB := n0_; have BK268 := n1_; have GW268 := n2_; have GE268 := n3_; clear n0_ n1_ n2_ n3_; clear hb hbox hg; have hcz8_0 : w7.cell? ⟨gb268, 0, none⟩ = some (.int .i64 a0_0) := (blk_cell BK268.out 0).trans rfl; have hcz8_1 : w7.cell? ⟨gb268, 1, none⟩ = some (.int .i64 a0_1) := (blk_cell BK268.out 1).trans rfl; have hfz8_0 := blk_frozen BK268.out 0; have hfz8_1 := blk_frozen BK268.out 1) | ((with_reducible refine gate_callee (f := 32) rfl ?_); refine goesL_ (some 11) rfl rfl Tryd.func32 (by kernel_rfl) rfl #[.int .i64 a0_0] rfl (by (try simp only [List.map_toArray, List.map_cons, List.map_nil]); first | done | rfl | (simp only [List.length_drop, List.length_take]; rfl)) ?_; (with_reducible refine (almanackerref04_Weekday.calls a0_0 t269 _ A4.out).mono ?_); rintro e w' ⟨rfl, ⟨nd, rfl⟩⟩; refine ⟨_, rfl, ?_⟩))
      go_ret
      exact ⟨by first | rfl | (simp [errW_none, errW_some] <;> rfl) | (simp [*, errW_none, errW_some] <;> rfl), by repeat (first | (with_reducible first | exact HB.out | apply below_alloc | apply pw_below_drewN | apply below_drew1 | refine below_set ?_ GE268.out) | exact HB.out)⟩
    · rw [if_neg c6] at H
      have c6b0 : ((Int.tmod (wrap64 (t269 + 1)) 7) == 0) = false := beq_eq_false_iff_ne.mpr c6
      have c6b1 : ((Int.tmod (wrap64 (t269 + 1)) 7) != 0) = true := bne_iff_ne.mpr c6
      by_cases c9 : (Int.tmod (wrap64 (t269 + 1)) 7) = 3
      · rw [if_pos c9] at H
        have c9b0 : ((Int.tmod (wrap64 (t269 + 1)) 7) == 3) = true := beq_iff_eq.mpr c9
        have c9b1 : ((Int.tmod (wrap64 (t269 + 1)) 7) != 3) = false := bne_eq_false_iff_eq.mpr c9
        clear c9
        obtain rfl := Option.some.inj H
        go_enter Tryd.func59, Tryd.ntmps59
        go_wp2_with (first | ((with_reducible refine gate_dst (N := 3) rfl ?_); refine box_event ?hg (N := 3) ?hd (cs := #[.int .i64 a0_0, .int .i64 a0_1]) (t := 86) ?hr ?_; (case hd => rfl); (case hg => rfl); (case hr => first | (go_simp; done) | (go_simp; rfl)); intro gb268 hg w10 hbox hb; have n0_ := Aside0.mk (below_step (by repeat (first | (with_reducible first | exact HB.out | apply below_alloc | apply pw_below_drewN | apply below_drew1) | exact HB.out)) hb); have n1_ := Aside0.mk (hbox); have n2_ := Aside0.mk ((by rw [hg]; exact (below_size (by repeat (first | (with_reducible first | exact HB.out | apply below_alloc | apply pw_below_drewN | apply below_drew1) | exact HB.out))) : w.heap.size ≤ gb268)); have n3_ := Aside0.mk ((by rw [hg]; exact (below_size (by repeat (first | (with_reducible first | exact HB.out | apply below_alloc | apply pw_below_drewN | apply below_drew1) | exact HB.out))) : w.heap.size ≤ gb268)); clear HB; have HB := n0_; have BK268 := n1_; have GW268 := n2_; have GE268 := n3_; clear n0_ n1_ n2_ n3_; clear hb hbox hg; have hcz11_0 : w10.cell? ⟨gb268, 0, none⟩ = some (.int .i64 a0_0) := (blk_cell BK268.out 0).trans rfl; have hcz11_1 : w10.cell? ⟨gb268, 1, none⟩ = some (.int .i64 a0_1) := (blk_cell BK268.out 1).trans rfl; have hfz11_0 := blk_frozen BK268.out 0; have hfz11_1 := blk_frozen BK268.out 1) | ((with_reducible refine gate_callee (f := 32) rfl ?_); refine goesL_ (some 11) rfl rfl Tryd.func32 (by kernel_rfl) rfl #[.int .i64 a0_0] rfl (by (try simp only [List.map_toArray, List.map_cons, List.map_nil]); first | done | rfl | (simp only [List.length_drop, List.length_take]; rfl)) ?_; (with_reducible refine (almanackerref04_Weekday.calls a0_0 t269 _ A4.out).mono ?_); rintro e w' ⟨rfl, ⟨nd, rfl⟩⟩; refine ⟨_, rfl, ?_⟩))
        go_ret
        exact ⟨by first | rfl | (simp [errW_none, errW_some] <;> rfl) | (simp [*, errW_none, errW_some] <;> rfl), by repeat (first | (with_reducible first | exact HB.out | apply below_alloc | apply pw_below_drewN | apply below_drew1 | refine below_set ?_ GE268.out) | exact HB.out)⟩
      · rw [if_neg c9] at H
        have c9b0 : ((Int.tmod (wrap64 (t269 + 1)) 7) == 3) = false := beq_eq_false_iff_ne.mpr c9
        have c9b1 : ((Int.tmod (wrap64 (t269 + 1)) 7) != 3) = true := bne_iff_ne.mpr c9
        by_cases c12 : (Int.tmod (wrap64 (t269 + 1)) 7) = 5
        · rw [if_pos c12] at H
          have c12b0 : ((Int.tmod (wrap64 (t269 + 1)) 7) == 5) = true := beq_iff_eq.mpr c12
          have c12b1 : ((Int.tmod (wrap64 (t269 + 1)) 7) != 5) = false := bne_eq_false_iff_eq.mpr c12
          clear c12
          obtain rfl := Option.some.inj H
          go_enter Tryd.func59, Tryd.ntmps59
          go_wp2_with (first | ((with_reducible refine gate_dst (N := 3) rfl ?_); refine box_event ?hg (N := 3) ?hd (cs := #[.int .i64 a0_0, .int .i64 a0_1]) (t := 86) ?hr ?_; (case hd => rfl); (case hg => rfl); (case hr => first | (go_simp; done) | (go_simp; rfl)); intro gb268 hg w13 hbox hb; have n0_ := Aside0.mk (below_step (by repeat (first | (with_reducible first | exact HB.out | apply below_alloc | apply pw_below_drewN | apply below_drew1) | exact HB.out)) hb); have n1_ := Aside0.mk (hbox); have n2_ := Aside0.mk ((by rw [hg]; exact (below_size (by repeat (first | (with_reducible first | exact HB.out | apply below_alloc | apply pw_below_drewN | apply below_drew1) | exact HB.out))) : w.heap.size ≤ gb268)); have n3_ := Aside0.mk ((by rw [hg]; exact (below_size (by repeat (first | (with_reducible first | exact HB.out | apply below_alloc | apply pw_below_drewN | apply below_drew1) | exact HB.out))) : w.heap.size ≤ gb268)); clear HB; have HB := n0_; have BK268 := n1_; have GW268 := n2_; have GE268 := n3_; clear n0_ n1_ n2_ n3_; clear hb hbox hg; have hcz14_0 : w13.cell? ⟨gb268, 0, none⟩ = some (.int .i64 a0_0) := (blk_cell BK268.out 0).trans rfl; have hcz14_1 : w13.cell? ⟨gb268, 1, none⟩ = some (.int .i64 a0_1) := (blk_cell BK268.out 1).trans rfl; have hfz14_0 := blk_frozen BK268.out 0; have hfz14_1 := blk_frozen BK268.out 1) | ((with_reducible refine gate_callee (f := 32) rfl ?_); refine goesL_ (some 11) rfl rfl Tryd.func32 (by kernel_rfl) rfl #[.int .i64 a0_0] rfl (by (try simp only [List.map_toArray, List.map_cons, List.map_nil]); first | done | rfl | (simp only [List.length_drop, List.length_take]; rfl)) ?_; (with_reducible refine (almanackerref04_Weekday.calls a0_0 t269 _ A4.out).mono ?_); rintro e w' ⟨rfl, ⟨nd, rfl⟩⟩; refine ⟨_, rfl, ?_⟩))
          go_ret
          exact ⟨by first | rfl | (simp [errW_none, errW_some] <;> rfl) | (simp [*, errW_none, errW_some] <;> rfl), by repeat (first | (with_reducible first | exact HB.out | apply below_alloc | apply pw_below_drewN | apply below_drew1 | refine below_set ?_ GE268.out) | exact HB.out)⟩
        · rw [if_neg c12] at H
          have c12b0 : ((Int.tmod (wrap64 (t269 + 1)) 7) == 5) = false := beq_eq_false_iff_ne.mpr c12
          have c12b1 : ((Int.tmod (wrap64 (t269 + 1)) 7) != 5) = true := bne_iff_ne.mpr c12
          obtain rfl := Option.some.inj H
          go_enter Tryd.func59, Tryd.ntmps59
          go_wp2_with (first | ((with_reducible refine gate_dst (N := 3) rfl ?_); refine box_event ?hg (N := 3) ?hd (cs := #[.int .i64 a0_0, .int .i64 a0_1]) (t := 86) ?hr ?_; (case hd => rfl); (case hg => rfl); (case hr => first | (go_simp; done) | (go_simp; rfl)); intro gb268 hg w15 hbox hb; have n0_ := Aside0.mk (below_step (by repeat (first | (with_reducible first | exact HB.out | apply below_alloc | apply pw_below_drewN | apply below_drew1) | exact HB.out)) hb); have n1_ := Aside0.mk (hbox); have n2_ := Aside0.mk ((by rw [hg]; exact (below_size (by repeat (first | (with_reducible first | exact HB.out | apply below_alloc | apply pw_below_drewN | apply below_drew1) | exact HB.out))) : w.heap.size ≤ gb268)); have n3_ := Aside0.mk ((by rw [hg]; exact (below_size (by repeat (first | (with_reducible first | exact HB.out | apply below_alloc | apply pw_below_drewN | apply below_drew1) | exact HB.out))) : w.heap.size ≤ gb268)); clear HB; have HB := n0_; have BK268 := n1_; have GW268 := n2_; have GE268 := n3_; clear n0_ n1_ n2_ n3_; clear hb hbox hg; have hcz16_0 : w15.cell? ⟨gb268, 0, none⟩ = some (.int .i64 a0_0) := (blk_cell BK268.out 0).trans rfl; have hcz16_1 : w15.cell? ⟨gb268, 1, none⟩ = some (.int .i64 a0_1) := (blk_cell BK268.out 1).trans rfl; have hfz16_0 := blk_frozen BK268.out 0; have hfz16_1 := blk_frozen BK268.out 1) | ((with_reducible refine gate_callee (f := 32) rfl ?_); refine goesL_ (some 11) rfl rfl Tryd.func32 (by kernel_rfl) rfl #[.int .i64 a0_0] rfl (by (try simp only [List.map_toArray, List.map_cons, List.map_nil]); first | done | rfl | (simp only [List.length_drop, List.length_take]; rfl)) ?_; (with_reducible refine (almanackerref04_Weekday.calls a0_0 t269 _ A4.out).mono ?_); rintro e w' ⟨rfl, ⟨nd, rfl⟩⟩; refine ⟨_, rfl, ?_⟩))
          go_ret
          exact ⟨by first | rfl | (simp [errW_none, errW_some] <;> rfl) | (simp [*, errW_none, errW_some] <;> rfl), by repeat (first | (with_reducible first | exact HB.out | apply below_alloc | apply pw_below_drewN | apply below_drew1 | refine below_set ?_ GE268.out) | exact HB.out)⟩
  · rw [if_neg c5] at H
    have c5b0 : decide (19440 ≤ a0_1) = false := decide_eq_false c5
    clear c5
    have HC17 := Aside0.mk H
    clear H
    go_enter Tryd.func59, Tryd.ntmps59
    go_upto_region 5 with (first | ((with_reducible refine gate_dst (N := 3) rfl ?_); refine box_event ?hg (N := 3) ?hd (cs := #[.int .i64 a0_0, .int .i64 a0_1]) (t := 86) ?hr ?_; (case hd => rfl); (case hg => rfl); (case hr => first | (go_simp; done) | (go_simp; rfl)); intro gb268 hg w18 hbox hb; have n0_ := Aside0.mk (below_step (by repeat (first | (with_reducible first | exact HB.out | apply below_alloc | apply pw_below_drewN | apply below_drew1) | exact HB.out)) hb); have n1_ := Aside0.mk (hbox); have n2_ := Aside0.mk ((by rw [hg]; exact (below_size (by repeat (first | (with_reducible first | exact HB.out | apply below_alloc | apply pw_below_drewN | apply below_drew1) | exact HB.out))) : w.heap.size ≤ gb268)); have n3_ := Aside0.mk ((by rw [hg]; exact (below_size (by repeat (first | (with_reducible first | exact HB.out | apply below_alloc | apply pw_below_drewN | apply below_drew1) | exact HB.out))) : w.heap.size ≤ gb268)); clear HB; have HB := n0_; have BK268 := n1_; have GW268 := n2_; have GE268 := n3_; clear n0_ n1_ n2_ n3_; clear hb hbox hg; have hcz19_0 : w18.cell? ⟨gb268, 0, none⟩ = some (.int .i64 a0_0) := (blk_cell BK268.out 0).trans rfl; have hcz19_1 : w18.cell? ⟨gb268, 1, none⟩ = some (.int .i64 a0_1) := (blk_cell BK268.out 1).trans rfl; have hfz19_0 := blk_frozen BK268.out 0; have hfz19_1 := blk_frozen BK268.out 1) | ((with_reducible refine gate_callee (f := 32) rfl ?_); refine goesL_ (some 11) rfl rfl Tryd.func32 (by kernel_rfl) rfl #[.int .i64 a0_0] rfl (by (try simp only [List.map_toArray, List.map_cons, List.map_nil]); first | done | rfl | (simp only [List.length_drop, List.length_take]; rfl)) ?_; (with_reducible refine (almanackerref04_Weekday.calls a0_0 t269 _ A4.out).mono ?_); rintro e w' ⟨rfl, ⟨nd, rfl⟩⟩; refine ⟨_, rfl, ?_⟩))
    (try simp only [Act.put, List.setIfInBounds_toArray, List.set_cons_zero, List.set_cons_succ])
    go_cut [25] (fun v25 wc => ∃ (kq : Nat) (x25_16 : Bool), v25 = .bool x25_16 ∧ Aside0 (almanackerref05_Delay.j0 kq a2 t269 0 x25_16 a0_0 a0_1 = some r) ∧ Aside0 (kq ≤ k) ∧ Aside0 (wc.heap[gb268]? = some (.cells #[.int .i64 a0_0, .int .i64 a0_1] 86 (0, 0))) ∧ Aside0 (Below w.heap.size w wc))
    case first =>
      have H := HC17.out
      clear HC17
      by_cases c20 : a1 = true
      · subst c20
        have H1 : (almanackerref05_Delay.j0 k a2 t269 0 false a0_0 a0_1) = some r := by rw [if_pos rfl] at H; exact H
        clear H
        have H := H1
        clear H1
        have H' := Aside0.mk H
        clear H
        go_wp2
        go_meet
        case rel => exact ⟨_, (false), (by first | rfl | (simp; done) | (simp [*]; done)), H', ⟨by first | omega | exact Nat.le_refl _⟩, ⟨by (with_reducible repeat (first | refine blk_drewN ?_ _ | refine blk_drew ?_ | refine blk_alloc ?_ _)); exact BK268.out⟩, ⟨by repeat (first | (with_reducible first | exact HB.out | apply below_alloc | apply pw_below_drewN | apply below_drew1 | refine below_set ?_ GE268.out) | exact HB.out)⟩⟩
      · replace c20 := Bool.eq_false_iff.mpr c20
        subst c20
        have H1 : (if t269 = 2 then (almanackerref05_Delay.j0 k a2 t269 0 (decide (a0_1 ≥ 9924)) a0_0 a0_1) else (almanackerref05_Delay.j0 k a2 t269 0 false a0_0 a0_1)) = some r := by rw [if_neg (show ¬ (false = true) by decide)] at H; exact H
        clear H
        have H := H1
        clear H1
        by_cases c21 : t269 = 2
        · rw [if_pos c21] at H
          have c21b0 : (t269 == 2) = true := beq_iff_eq.mpr c21
          have c21b1 : (t269 != 2) = false := bne_eq_false_iff_eq.mpr c21
          clear c21
          (first | rw [c21b0] | (simp only [i64_w, i32_w]; rw [c21b0]) | skip)
          have H' := Aside0.mk H
          clear H
          have hcz22_0 : w18.cell? ⟨gb268, 0, none⟩ = some (.int .i64 a0_0) := (blk_cell BK268.out 0).trans rfl
          have hcz22_1 : w18.cell? ⟨gb268, 1, none⟩ = some (.int .i64 a0_1) := (blk_cell BK268.out 1).trans rfl
          have hfz22_0 := blk_frozen BK268.out 0
          have hfz22_1 := blk_frozen BK268.out 1
          go_wp2
          go_meet
          case rel => exact ⟨_, (decide (a0_1 ≥ 9924)), (by first | rfl | (simp; done) | (simp [*]; done)), H', ⟨by first | omega | exact Nat.le_refl _⟩, ⟨by (with_reducible repeat (first | refine blk_drewN ?_ _ | refine blk_drew ?_ | refine blk_alloc ?_ _)); exact BK268.out⟩, ⟨by repeat (first | (with_reducible first | exact HB.out | apply below_alloc | apply pw_below_drewN | apply below_drew1 | refine below_set ?_ GE268.out) | exact HB.out)⟩⟩
        · rw [if_neg c21] at H
          have c21b0 : (t269 == 2) = false := beq_eq_false_iff_ne.mpr c21
          have c21b1 : (t269 != 2) = true := bne_iff_ne.mpr c21
          (first | rw [c21b0] | (simp only [i64_w, i32_w]; rw [c21b0]) | skip)
          have H' := Aside0.mk H
          clear H
          go_wp2
          go_meet
          case rel => exact ⟨_, (false), (by first | rfl | (simp; done) | (simp [*]; done)), H', ⟨by first | omega | exact Nat.le_refl _⟩, ⟨by (with_reducible repeat (first | refine blk_drewN ?_ _ | refine blk_drew ?_ | refine blk_alloc ?_ _)); exact BK268.out⟩, ⟨by repeat (first | (with_reducible first | exact HB.out | apply below_alloc | apply pw_below_drewN | apply below_drew1 | refine below_set ?_ GE268.out) | exact HB.out)⟩⟩
    case rest =>
      clear HC17
      try clear c1
      try clear c2
      try clear p2
      try clear c3
      try clear c5
      try clear c5b0
      try clear c6
      try clear c6b0
      try clear c6b1
      try clear p6
      try clear c9
      try clear c9b0
      try clear c9b1
      try clear c12
      try clear c12b0
      try clear c12b1
      try clear c20
      try clear c21
      try clear c21b0
      try clear c21b1
      try clear hcz11_0
      try clear hcz11_1
      try clear hcz14_0
      try clear hcz14_1
      try clear hcz16_0
      try clear hcz16_1
      try clear hcz19_0
      try clear hcz19_1
      try clear hcz22_0
      try clear hcz22_1
      try clear hcz8_0
      try clear hcz8_1
      try clear hfz11_0
      try clear hfz11_1
      try clear hfz14_0
      try clear hfz14_1
      try clear hfz16_0
      try clear hfz16_1
      try clear hfz19_0
      try clear hfz19_1
      try clear hfz22_0
      try clear hfz22_1
      try clear hfz8_0
      try clear hfz8_1
      obtain ⟨kq, x25_16, rfl, HA, HJ16, BK268, HB⟩ := hcut
      cases kq with
      | zero => exact absurd HA.out (by simp [almanackerref05_Delay.j0])
      | succ kj16 =>
        have H := HA.out
        clear HA
        simp only [almanackerref05_Delay.j0] at H
        by_cases c23 : x25_16 = true
        · subst c23
          have H1 : (if (Int.tmod (wrap64 (t269 + 1)) 7) = 0 then (some (1 + 1)) else (if (Int.tmod (wrap64 (t269 + 1)) 7) = 3 then (some (1 + 1)) else (if (Int.tmod (wrap64 (t269 + 1)) 7) = 5 then (some (1 + 1)) else (some 1)))) = some r := by rw [if_pos rfl] at H; exact H
          clear H
          have H := H1
          clear H1
          by_cases c24 : (Int.tmod (wrap64 (t269 + 1)) 7) = 0
          · rw [if_pos c24] at H
            have c24b0 : ((Int.tmod (wrap64 (t269 + 1)) 7) == 0) = true := beq_iff_eq.mpr c24
            have c24b1 : ((Int.tmod (wrap64 (t269 + 1)) 7) != 0) = false := bne_eq_false_iff_eq.mpr c24
            clear c24
            obtain rfl := Option.some.inj H
            go_wp2
            go_ret
            exact ⟨by first | rfl | (simp [errW_none, errW_some] <;> rfl) | (simp [*, errW_none, errW_some] <;> rfl), by repeat (first | (with_reducible first | exact HB.out | apply below_alloc | apply pw_below_drewN | apply below_drew1 | refine below_set ?_ GE268.out) | exact HB.out)⟩
          · rw [if_neg c24] at H
            have c24b0 : ((Int.tmod (wrap64 (t269 + 1)) 7) == 0) = false := beq_eq_false_iff_ne.mpr c24
            have c24b1 : ((Int.tmod (wrap64 (t269 + 1)) 7) != 0) = true := bne_iff_ne.mpr c24
            by_cases c25 : (Int.tmod (wrap64 (t269 + 1)) 7) = 3
            · rw [if_pos c25] at H
              have c25b0 : ((Int.tmod (wrap64 (t269 + 1)) 7) == 3) = true := beq_iff_eq.mpr c25
              have c25b1 : ((Int.tmod (wrap64 (t269 + 1)) 7) != 3) = false := bne_eq_false_iff_eq.mpr c25
              clear c25
              obtain rfl := Option.some.inj H
              go_wp2
              go_ret
              exact ⟨by first | rfl | (simp [errW_none, errW_some] <;> rfl) | (simp [*, errW_none, errW_some] <;> rfl), by repeat (first | (with_reducible first | exact HB.out | apply below_alloc | apply pw_below_drewN | apply below_drew1 | refine below_set ?_ GE268.out) | exact HB.out)⟩
            · rw [if_neg c25] at H
              have c25b0 : ((Int.tmod (wrap64 (t269 + 1)) 7) == 3) = false := beq_eq_false_iff_ne.mpr c25
              have c25b1 : ((Int.tmod (wrap64 (t269 + 1)) 7) != 3) = true := bne_iff_ne.mpr c25
              by_cases c26 : (Int.tmod (wrap64 (t269 + 1)) 7) = 5
              · rw [if_pos c26] at H
                have c26b0 : ((Int.tmod (wrap64 (t269 + 1)) 7) == 5) = true := beq_iff_eq.mpr c26
                have c26b1 : ((Int.tmod (wrap64 (t269 + 1)) 7) != 5) = false := bne_eq_false_iff_eq.mpr c26
                clear c26
                obtain rfl := Option.some.inj H
                go_wp2
                go_ret
                exact ⟨by first | rfl | (simp [errW_none, errW_some] <;> rfl) | (simp [*, errW_none, errW_some] <;> rfl), by repeat (first | (with_reducible first | exact HB.out | apply below_alloc | apply pw_below_drewN | apply below_drew1 | refine below_set ?_ GE268.out) | exact HB.out)⟩
              · rw [if_neg c26] at H
                have c26b0 : ((Int.tmod (wrap64 (t269 + 1)) 7) == 5) = false := beq_eq_false_iff_ne.mpr c26
                have c26b1 : ((Int.tmod (wrap64 (t269 + 1)) 7) != 5) = true := bne_iff_ne.mpr c26
                obtain rfl := Option.some.inj H
                go_wp2
                go_ret
                exact ⟨by first | rfl | (simp [errW_none, errW_some] <;> rfl) | (simp [*, errW_none, errW_some] <;> rfl), by repeat (first | (with_reducible first | exact HB.out | apply below_alloc | apply pw_below_drewN | apply below_drew1 | refine below_set ?_ GE268.out) | exact HB.out)⟩
        · replace c23 := Bool.eq_false_iff.mpr c23
          subst c23
          have H1 : (if a2 = true then (if t269 = 1 then (almanackerref05_Delay.j1 kj16 t269 0 (decide (a0_1 ≥ 16789))) else (almanackerref05_Delay.j1 kj16 t269 0 false)) else (almanackerref05_Delay.j1 kj16 t269 0 false)) = some r := by rw [if_neg (show ¬ (false = true) by decide)] at H; exact H
          clear H
          have H := H1
          clear H1
          have HC27 := Aside0.mk H
          clear H
          go_upto_region 7 with (fail)
          go_cut [35] (fun v35 wc => ∃ (kq : Nat) (x35_26 : Bool), v35 = .bool x35_26 ∧ Aside0 (almanackerref05_Delay.j1 kq t269 0 x35_26 = some r) ∧ Aside0 (kq ≤ kj16) ∧ Aside0 (wc.heap[gb268]? = some (.cells #[.int .i64 a0_0, .int .i64 a0_1] 86 (0, 0))) ∧ Aside0 (Below w.heap.size w wc))
          case first =>
            have H := HC27.out
            clear HC27
            by_cases c28 : a2 = true
            · subst c28
              have H1 : (if t269 = 1 then (almanackerref05_Delay.j1 kj16 t269 0 (decide (a0_1 ≥ 16789))) else (almanackerref05_Delay.j1 kj16 t269 0 false)) = some r := by rw [if_pos rfl] at H; exact H
              clear H
              have H := H1
              clear H1
              by_cases c29 : t269 = 1
              · rw [if_pos c29] at H
                have c29b0 : (t269 == 1) = true := beq_iff_eq.mpr c29
                have c29b1 : (t269 != 1) = false := bne_eq_false_iff_eq.mpr c29
                clear c29
                (first | rw [c29b0] | (simp only [i64_w, i32_w]; rw [c29b0]) | skip)
                have H' := Aside0.mk H
                clear H
                have hcz30_0 : wc.cell? ⟨gb268, 0, none⟩ = some (.int .i64 a0_0) := (blk_cell BK268.out 0).trans rfl
                have hcz30_1 : wc.cell? ⟨gb268, 1, none⟩ = some (.int .i64 a0_1) := (blk_cell BK268.out 1).trans rfl
                have hfz30_0 := blk_frozen BK268.out 0
                have hfz30_1 := blk_frozen BK268.out 1
                go_wp2
                go_meet
                case rel => exact ⟨_, (decide (a0_1 ≥ 16789)), (by first | rfl | (simp; done) | (simp [*]; done)), H', ⟨by have := HJ16.out; first | omega | exact Nat.le_refl _⟩, ⟨by (with_reducible repeat (first | refine blk_drewN ?_ _ | refine blk_drew ?_ | refine blk_alloc ?_ _)); exact BK268.out⟩, ⟨by repeat (first | (with_reducible first | exact HB.out | apply below_alloc | apply pw_below_drewN | apply below_drew1 | refine below_set ?_ GE268.out) | exact HB.out)⟩⟩
              · rw [if_neg c29] at H
                have c29b0 : (t269 == 1) = false := beq_eq_false_iff_ne.mpr c29
                have c29b1 : (t269 != 1) = true := bne_iff_ne.mpr c29
                (first | rw [c29b0] | (simp only [i64_w, i32_w]; rw [c29b0]) | skip)
                have H' := Aside0.mk H
                clear H
                go_wp2
                go_meet
                case rel => exact ⟨_, (false), (by first | rfl | (simp; done) | (simp [*]; done)), H', ⟨by have := HJ16.out; first | omega | exact Nat.le_refl _⟩, ⟨by (with_reducible repeat (first | refine blk_drewN ?_ _ | refine blk_drew ?_ | refine blk_alloc ?_ _)); exact BK268.out⟩, ⟨by repeat (first | (with_reducible first | exact HB.out | apply below_alloc | apply pw_below_drewN | apply below_drew1 | refine below_set ?_ GE268.out) | exact HB.out)⟩⟩
            · replace c28 := Bool.eq_false_iff.mpr c28
              subst c28
              have H1 : (almanackerref05_Delay.j1 kj16 t269 0 false) = some r := by rw [if_neg (show ¬ (false = true) by decide)] at H; exact H
              clear H
              have H := H1
              clear H1
              have H' := Aside0.mk H
              clear H
              go_wp2
              go_meet
              case rel => exact ⟨_, (false), (by first | rfl | (simp; done) | (simp [*]; done)), H', ⟨by have := HJ16.out; first | omega | exact Nat.le_refl _⟩, ⟨by (with_reducible repeat (first | refine blk_drewN ?_ _ | refine blk_drew ?_ | refine blk_alloc ?_ _)); exact BK268.out⟩, ⟨by repeat (first | (with_reducible first | exact HB.out | apply below_alloc | apply pw_below_drewN | apply below_drew1 | refine below_set ?_ GE268.out) | exact HB.out)⟩⟩
          case rest =>
            clear HC27
            try clear c1
            try clear c2
            try clear p2
            try clear c3
            try clear c5
            try clear c5b0
            try clear c6
            try clear c6b0
            try clear c6b1
            try clear p6
            try clear c9
            try clear c9b0
            try clear c9b1
            try clear c12
            try clear c12b0
            try clear c12b1
            try clear c20
            try clear c21
            try clear c21b0
            try clear c21b1
            try clear c23
            try clear c24
            try clear c24b0
            try clear c24b1
            try clear c25
            try clear c25b0
            try clear c25b1
            try clear c26
            try clear c26b0
            try clear c26b1
            try clear c28
            try clear c29
            try clear c29b0
            try clear c29b1
            try clear hcz11_0
            try clear hcz11_1
            try clear hcz14_0
            try clear hcz14_1
            try clear hcz16_0
            try clear hcz16_1
            try clear hcz19_0
            try clear hcz19_1
            try clear hcz22_0
            try clear hcz22_1
            try clear hcz30_0
            try clear hcz30_1
            try clear hcz8_0
            try clear hcz8_1
            try clear hfz11_0
            try clear hfz11_1
            try clear hfz14_0
            try clear hfz14_1
            try clear hfz16_0
            try clear hfz16_1
            try clear hfz19_0
            try clear hfz19_1
            try clear hfz22_0
            try clear hfz22_1
            try clear hfz30_0
            try clear hfz30_1
            try clear hfz8_0
            try clear hfz8_1
            try clear p2
            try clear p6
            obtain ⟨kq, x35_26, rfl, HA, HJ26, BK268, HB⟩ := hcut
            cases kq with
            | zero => exact absurd HA.out (by simp [almanackerref05_Delay.j1])
            | succ kj26 =>
              have H := HA.out
              clear HA
              simp only [almanackerref05_Delay.j1] at H
              by_cases c31 : x35_26 = true
              · subst c31
                have H1 : (if (Int.tmod (wrap64 (t269 + 1)) 7) = 0 then (some (1 + 1)) else (if (Int.tmod (wrap64 (t269 + 1)) 7) = 3 then (some (1 + 1)) else (if (Int.tmod (wrap64 (t269 + 1)) 7) = 5 then (some (1 + 1)) else (some 1)))) = some r := by rw [if_pos rfl] at H; exact H
                clear H
                have H := H1
                clear H1
                by_cases c32 : (Int.tmod (wrap64 (t269 + 1)) 7) = 0
                · rw [if_pos c32] at H
                  have c32b0 : ((Int.tmod (wrap64 (t269 + 1)) 7) == 0) = true := beq_iff_eq.mpr c32
                  have c32b1 : ((Int.tmod (wrap64 (t269 + 1)) 7) != 0) = false := bne_eq_false_iff_eq.mpr c32
                  clear c32
                  obtain rfl := Option.some.inj H
                  go_wp2
                  go_ret
                  exact ⟨by first | rfl | (simp [errW_none, errW_some] <;> rfl) | (simp [*, errW_none, errW_some] <;> rfl), by repeat (first | (with_reducible first | exact HB.out | apply below_alloc | apply pw_below_drewN | apply below_drew1 | refine below_set ?_ GE268.out) | exact HB.out)⟩
                · rw [if_neg c32] at H
                  have c32b0 : ((Int.tmod (wrap64 (t269 + 1)) 7) == 0) = false := beq_eq_false_iff_ne.mpr c32
                  have c32b1 : ((Int.tmod (wrap64 (t269 + 1)) 7) != 0) = true := bne_iff_ne.mpr c32
                  by_cases c33 : (Int.tmod (wrap64 (t269 + 1)) 7) = 3
                  · rw [if_pos c33] at H
                    have c33b0 : ((Int.tmod (wrap64 (t269 + 1)) 7) == 3) = true := beq_iff_eq.mpr c33
                    have c33b1 : ((Int.tmod (wrap64 (t269 + 1)) 7) != 3) = false := bne_eq_false_iff_eq.mpr c33
                    clear c33
                    obtain rfl := Option.some.inj H
                    go_wp2
                    go_ret
                    exact ⟨by first | rfl | (simp [errW_none, errW_some] <;> rfl) | (simp [*, errW_none, errW_some] <;> rfl), by repeat (first | (with_reducible first | exact HB.out | apply below_alloc | apply pw_below_drewN | apply below_drew1 | refine below_set ?_ GE268.out) | exact HB.out)⟩
                  · rw [if_neg c33] at H
                    have c33b0 : ((Int.tmod (wrap64 (t269 + 1)) 7) == 3) = false := beq_eq_false_iff_ne.mpr c33
                    have c33b1 : ((Int.tmod (wrap64 (t269 + 1)) 7) != 3) = true := bne_iff_ne.mpr c33
                    by_cases c34 : (Int.tmod (wrap64 (t269 + 1)) 7) = 5
                    · rw [if_pos c34] at H
                      have c34b0 : ((Int.tmod (wrap64 (t269 + 1)) 7) == 5) = true := beq_iff_eq.mpr c34
                      have c34b1 : ((Int.tmod (wrap64 (t269 + 1)) 7) != 5) = false := bne_eq_false_iff_eq.mpr c34
                      clear c34
                      obtain rfl := Option.some.inj H
                      go_wp2
                      go_ret
                      exact ⟨by first | rfl | (simp [errW_none, errW_some] <;> rfl) | (simp [*, errW_none, errW_some] <;> rfl), by repeat (first | (with_reducible first | exact HB.out | apply below_alloc | apply pw_below_drewN | apply below_drew1 | refine below_set ?_ GE268.out) | exact HB.out)⟩
                    · rw [if_neg c34] at H
                      have c34b0 : ((Int.tmod (wrap64 (t269 + 1)) 7) == 5) = false := beq_eq_false_iff_ne.mpr c34
                      have c34b1 : ((Int.tmod (wrap64 (t269 + 1)) 7) != 5) = true := bne_iff_ne.mpr c34
                      obtain rfl := Option.some.inj H
                      go_wp2
                      go_ret
                      exact ⟨by first | rfl | (simp [errW_none, errW_some] <;> rfl) | (simp [*, errW_none, errW_some] <;> rfl), by repeat (first | (with_reducible first | exact HB.out | apply below_alloc | apply pw_below_drewN | apply below_drew1 | refine below_set ?_ GE268.out) | exact HB.out)⟩
              · replace c31 := Bool.eq_false_iff.mpr c31
                subst c31
                have H1 : (if (Int.tmod (wrap64 (t269 + 0)) 7) = 0 then (some (wrap64 (0 + 1))) else (if (Int.tmod (wrap64 (t269 + 0)) 7) = 3 then (some (wrap64 (0 + 1))) else (if (Int.tmod (wrap64 (t269 + 0)) 7) = 5 then (some (wrap64 (0 + 1))) else (some 0)))) = some r := by rw [if_neg (show ¬ (false = true) by decide)] at H; exact H
                clear H
                have H := H1
                clear H1
                simp only [Int.add_zero, Int.zero_add, show wrap64 1 = 1 by unfold wrap64; omega] at H
                by_cases c35 : (Int.tmod (wrap64 t269) 7) = 0
                · rw [if_pos c35] at H
                  have c35b0 : ((Int.tmod (wrap64 t269) 7) == 0) = true := beq_iff_eq.mpr c35
                  have c35b1 : ((Int.tmod (wrap64 t269) 7) != 0) = false := bne_eq_false_iff_eq.mpr c35
                  clear c35
                  obtain rfl := Option.some.inj H
                  go_wp2
                  go_ret
                  exact ⟨by first | rfl | (simp [errW_none, errW_some] <;> rfl) | (simp [*, errW_none, errW_some] <;> rfl), by repeat (first | (with_reducible first | exact HB.out | apply below_alloc | apply pw_below_drewN | apply below_drew1 | refine below_set ?_ GE268.out) | exact HB.out)⟩
                · rw [if_neg c35] at H
                  have c35b0 : ((Int.tmod (wrap64 t269) 7) == 0) = false := beq_eq_false_iff_ne.mpr c35
                  have c35b1 : ((Int.tmod (wrap64 t269) 7) != 0) = true := bne_iff_ne.mpr c35
                  by_cases c36 : (Int.tmod (wrap64 t269) 7) = 3
                  · rw [if_pos c36] at H
                    have c36b0 : ((Int.tmod (wrap64 t269) 7) == 3) = true := beq_iff_eq.mpr c36
                    have c36b1 : ((Int.tmod (wrap64 t269) 7) != 3) = false := bne_eq_false_iff_eq.mpr c36
                    clear c36
                    obtain rfl := Option.some.inj H
                    go_wp2
                    go_ret
                    exact ⟨by first | rfl | (simp [errW_none, errW_some] <;> rfl) | (simp [*, errW_none, errW_some] <;> rfl), by repeat (first | (with_reducible first | exact HB.out | apply below_alloc | apply pw_below_drewN | apply below_drew1 | refine below_set ?_ GE268.out) | exact HB.out)⟩
                  · rw [if_neg c36] at H
                    have c36b0 : ((Int.tmod (wrap64 t269) 7) == 3) = false := beq_eq_false_iff_ne.mpr c36
                    have c36b1 : ((Int.tmod (wrap64 t269) 7) != 3) = true := bne_iff_ne.mpr c36
                    by_cases c37 : (Int.tmod (wrap64 t269) 7) = 5
                    · rw [if_pos c37] at H
                      have c37b0 : ((Int.tmod (wrap64 t269) 7) == 5) = true := beq_iff_eq.mpr c37
                      have c37b1 : ((Int.tmod (wrap64 t269) 7) != 5) = false := bne_eq_false_iff_eq.mpr c37
                      clear c37
                      obtain rfl := Option.some.inj H
                      go_wp2
                      go_ret
                      exact ⟨by first | rfl | (simp [errW_none, errW_some] <;> rfl) | (simp [*, errW_none, errW_some] <;> rfl), by repeat (first | (with_reducible first | exact HB.out | apply below_alloc | apply pw_below_drewN | apply below_drew1 | refine below_set ?_ GE268.out) | exact HB.out)⟩
                    · rw [if_neg c37] at H
                      have c37b0 : ((Int.tmod (wrap64 t269) 7) == 5) = false := beq_eq_false_iff_ne.mpr c37
                      have c37b1 : ((Int.tmod (wrap64 t269) 7) != 5) = true := bne_iff_ne.mpr c37
                      obtain rfl := Option.some.inj H
                      go_wp2
                      go_ret
                      exact ⟨by first | rfl | (simp [errW_none, errW_some] <;> rfl) | (simp [*, errW_none, errW_some] <;> rfl), by repeat (first | (with_reducible first | exact HB.out | apply below_alloc | apply pw_below_drewN | apply below_drew1 | refine below_set ?_ GE268.out) | exact HB.out)⟩

def almanackerref05_First.f (k : Nat) (a0 : Int) : Option (Int × Int) := (almanackerref04_Of.f k a0 1).bind fun bt270 => (if bt270.2.2 = 0 then ((almanackerref03_Is.f a0).bind fun t274 => ((almanackerref03_Is.f (wrap64 (a0 - 1))).bind fun t275 => ((almanackerref05_Delay.f k bt270.1 bt270.2.1 t274 t275).bind fun t276 => (some (wrap64 (bt270.1 + t276), 0))))) else (some (0, bt270.2.2)))
theorem almanackerref05_First.mono : ∀ a0 k, LeO (almanackerref05_First.f k a0) (almanackerref05_First.f (k + 1) a0) := by
  intro a0 k
  unfold almanackerref05_First.f
  repeat' first
      | (with_reducible exact almanackerref04_Of.mono _ _ _)
      | (with_reducible exact almanackerref05_Delay.mono _ _ _ _ _)
      | (with_reducible exact LeO.refl _)
      | (with_reducible exact LeO.none _)
      | (with_reducible refine LeO.ite ?_ ?_)
      | (with_reducible refine LeO.bind ?_ (fun _ => ?_))
      | exact almanackerref04_Of.mono _ _ _
      | exact almanackerref05_Delay.mono _ _ _ _ _
      | exact LeO.none _
      | refine LeO.ite ?_ ?_
      | refine LeO.bind ?_ (fun _ => ?_)
def almanackerref05_First.T4 : Bool × List (List Nat × List Nat) := (true, [([], []), ([0], [0]), ([], []), ([], []), ([3], [3]), ([], []), ([5], [5]), ([6, 4], [6]), ([2, 4, 7, 7], [2, 4, 7]), ([1, 8], [1, 8]), ([9, 8, 0, 1, 2, 3, 4, 5, 6, 7, 8, 9], [9]), ([10, 0, 1, 2, 3, 4, 5, 6, 7, 8, 9, 10], [])])
def almanackerref05_First.B4 : List Nat := [0, 1, 0, 0, 8, 0, 32, 120, 252, 511, 1023, 2047]
theorem almanackerref05_First.tab4 : rtab .any (opsOf Tryd.f34 4) = almanackerref05_First.T4 := by kernel_rfl
theorem almanackerref05_First.bits4 : waitsOk almanackerref05_First.T4.2 almanackerref05_First.B4 = true := by kernel_rfl
set_option maxHeartbeats 8000000 in
set_option maxRecDepth 100000 in
theorem almanackerref05_First.calls (k : Nat) (a0 : Int) (r1 : Int) (r2 : Int) (w : World) (h : almanackerref05_First.f k a0 = some (r1, r2)) :
    Calls Tryd.prog 34 #[.int .i64 a0] w fun e w' => e = .returned (.tuple #[.int .i64 r1, .int .i64 r2]) ∧ Below w.heap.size w w' := by
  have hu86 := Tryd.underlying86
  have HB := Aside0.mk (Below.refl w.heap.size w)
  have H : ((almanackerref04_Of.f k a0 1).bind fun bt270 => (if bt270.2.2 = 0 then ((almanackerref03_Is.f a0).bind fun t274 => ((almanackerref03_Is.f (wrap64 (a0 - 1))).bind fun t275 => ((almanackerref05_Delay.f k bt270.1 bt270.2.1 t274 t275).bind fun t276 => (some (wrap64 (bt270.1 + t276), 0))))) else (some (0, bt270.2.2)))) = some (r1, r2) := h
  clear h
  replace H := Option.bind_eq_some_iff.mp H
  obtain ⟨⟨t270, t271, t272⟩, A20, H⟩ := H
  replace H : (if t272 = 0 then ((almanackerref03_Is.f a0).bind fun t274 => ((almanackerref03_Is.f (wrap64 (a0 - 1))).bind fun t275 => ((almanackerref05_Delay.f k t270 t271 t274 t275).bind fun t276 => (some (wrap64 (t270 + t276), 0))))) else (some (0, t272))) = some (r1, r2) := H
  have A2 := Aside0.mk A20
  clear A20
  by_cases c3 : t272 = 0
  · rw [if_pos c3] at H
    have c3b0 : (t272 == 0) = true := beq_iff_eq.mpr c3
    have c3b1 : (t272 != 0) = false := bne_eq_false_iff_eq.mpr c3
    clear c3
    replace H := Option.bind_eq_some_iff.mp H
    obtain ⟨t274, A40, H⟩ := H
    replace H : ((almanackerref03_Is.f (wrap64 (a0 - 1))).bind fun t275 => ((almanackerref05_Delay.f k t270 t271 t274 t275).bind fun t276 => (some (wrap64 (t270 + t276), 0)))) = some (r1, r2) := H
    have A4 := Aside0.mk A40
    clear A40
    replace H := Option.bind_eq_some_iff.mp H
    obtain ⟨t275, A50, H⟩ := H
    replace H : ((almanackerref05_Delay.f k t270 t271 t274 t275).bind fun t276 => (some (wrap64 (t270 + t276), 0))) = some (r1, r2) := H
    have A5 := Aside0.mk A50
    clear A50
    replace H := Option.bind_eq_some_iff.mp H
    obtain ⟨t276, A60, H⟩ := H
    replace H : (some (wrap64 (t270 + t276), 0)) = some (r1, r2) := H
    have A6 := Aside0.mk A60
    clear A60
    simp only [Option.some.injEq, Prod.mk.injEq] at H
    obtain ⟨rfl, rfl⟩ := H
    go_enter Tryd.func34, Tryd.ntmps34
    try go_wp2_with (first | ((with_reducible refine gate_callee (f := 58) rfl ?_); refine goesL_ (some 8) rfl rfl Tryd.func58 (by kernel_rfl) rfl #[.int .i64 a0, .int .i64 1] rfl (by (try simp only [List.map_toArray, List.map_cons, List.map_nil]); first | done | rfl | (simp only [List.length_drop, List.length_take]; rfl)) ?_; (with_reducible refine (almanackerref04_Of.calls k a0 1 t270 t271 t272 _ A2.out).mono ?_); rintro e w7 ⟨rfl, hb⟩; refine ⟨_, rfl, ?_⟩; have n0_ := Aside0.mk (below_step (by repeat (first | (with_reducible first | exact HB.out | apply below_alloc | apply pw_below_drewN | apply below_drew1) | exact HB.out)) hb); clear HB; have HB := n0_; clear n0_; (try clear hb); (try clear hb2); (try clear hk); (try clear hi)) | ((with_reducible refine gate_dst (N := 4) rfl ?_); refine box_event ?hg (N := 4) ?hd (cs := #[.int .i64 0, .int .i64 0]) (t := 86) ?hr ?_; (case hd => rfl); (case hg => rfl); (case hr => first | (go_simp; done) | (go_simp; rfl)); intro gb273 hg w8 hbox hb; have n0_ := Aside0.mk (below_step (by repeat (first | (with_reducible first | exact HB.out | apply below_alloc | apply pw_below_drewN | apply below_drew1) | exact HB.out)) hb); have n1_ := Aside0.mk (hbox); have n2_ := Aside0.mk ((by rw [hg]; exact (below_size (by repeat (first | (with_reducible first | exact HB.out | apply below_alloc | apply pw_below_drewN | apply below_drew1) | exact HB.out))) : w.heap.size ≤ gb273)); have n3_ := Aside0.mk ((by rw [hg]; exact (below_size (by repeat (first | (with_reducible first | exact HB.out | apply below_alloc | apply pw_below_drewN | apply below_drew1) | exact HB.out))) : w.heap.size ≤ gb273)); clear HB; have HB := n0_; have BK273 := n1_; have GW273 := n2_; have GE273 := n3_; clear n0_ n1_ n2_ n3_; clear hb hbox hg; have hcz9_0 : w8.cell? ⟨gb273, 0, none⟩ = some (.int .i64 0) := (blk_cell BK273.out 0).trans rfl; have hcz9_1 : w8.cell? ⟨gb273, 1, none⟩ = some (.int .i64 0) := (blk_cell BK273.out 1).trans rfl; have hfz9_0 := blk_frozen BK273.out 0; have hfz9_1 := blk_frozen BK273.out 1))
    have n0_ : Aside0 (((w8.setCell ⟨gb273, 0, none⟩ (.int .i64 t270)).setCell ⟨gb273, 1, none⟩ (.int .i64 t271)).heap[gb273]? = some (.cells #[.int .i64 t270, .int .i64 t271] 86 (0, 0))) := ⟨by (with_reducible repeat (first | refine blk_drewN ?_ _ | refine blk_drew ?_ | refine blk_alloc ?_ _)); refine blk_put (cs := #[.int .i64 t270, .int .i64 0]) ?_ 1 _ rfl; (with_reducible repeat (first | refine blk_drewN ?_ _ | refine blk_drew ?_ | refine blk_alloc ?_ _)); refine blk_put (cs := #[.int .i64 0, .int .i64 0]) ?_ 0 _ rfl; (with_reducible repeat (first | refine blk_drewN ?_ _ | refine blk_drew ?_ | refine blk_alloc ?_ _)); exact BK273.out⟩
    have n1_ : Aside0 (Below w.heap.size w ((w8.setCell ⟨gb273, 0, none⟩ (.int .i64 t270)).setCell ⟨gb273, 1, none⟩ (.int .i64 t271))) := ⟨by repeat (first | (with_reducible first | exact HB.out | apply below_alloc | apply pw_below_drewN | apply below_drew1 | refine below_set ?_ GE273.out) | exact HB.out)⟩
    (try clear BK273)
    (try clear HB)
    generalize ((w8.setCell ⟨gb273, 0, none⟩ (.int .i64 t270)).setCell ⟨gb273, 1, none⟩ (.int .i64 t271)) = w10 at n0_ n1_ ⊢
    have BK273 := n0_
    have HB := n1_
    clear n0_ n1_
    have n0_ := Aside0.mk (blk_drew BK273.out)
    have n1_ := Aside0.mk (below_drew1 HB.out)
    clear BK273
    clear HB
    have BK273 := n0_
    have HB := n1_
    clear n0_ n1_
    refine start_ (n := 12) (S := fun w' => w'.cell? ⟨gb273, 0, none⟩ = some (.int .i64 t270) ∧ w'.cell? ⟨gb273, 1, none⟩ = some (.int .i64 t271)) (ds := []) #[false, false, false, false, false, false, false, false, false, false, false, false] (by kernel_rfl) rfl rfl ⟨(blk_cell BK273.out 0).trans rfl, (blk_cell BK273.out 1).trans rfl⟩ (fun hHeld => ?_); refine with_tabW almanackerref05_First.tab4 almanackerref05_First.bits4 (fun HT_ HW_ => ?_)
    generalize w10.drew = w11 at BK273 HB hHeld ⊢
    refine pure_ (i := 0) (N := some 14) (v := ?_) (a' := ?_) #[true, false, false, false, false, false, false, false, false, false, false, false] rfl rfl (any_of HT_.out (by kernel_rfl)) (fun _ _ _ h => h) (Or.inl ⟨by rfl, ?_⟩) ?_ ?_
    rotate_left
    · intro w'
      go_simp
      with_reducible rfl
    rotate_left
    · simp only [Act.put, List.setIfInBounds_toArray, List.set_cons_zero, List.set_cons_succ, i64_w, i32_w]
      rfl
    refine pure_ (i := 3) (N := some 17) (v := ?_) (a' := ?_) #[true, false, false, true, false, false, false, false, false, false, false, false] rfl rfl (any_of HT_.out (by kernel_rfl)) (fun _ _ _ h => h) (Or.inl ⟨by rfl, ?_⟩) ?_ ?_
    rotate_left
    · intro w'
      go_simp
      with_reducible rfl
    rotate_left
    · simp only [Act.put, List.setIfInBounds_toArray, List.set_cons_zero, List.set_cons_succ, i64_w, i32_w]
      rfl
    refine pure_ (i := 5) (N := some 19) (v := ?_) (a' := ?_) #[true, false, false, true, false, true, false, false, false, false, false, false] rfl rfl (any_of HT_.out (by kernel_rfl)) (fun _ _ _ h => h) (Or.inl ⟨by rfl, ?_⟩) ?_ ?_
    rotate_left
    · intro w'
      go_simp
      with_reducible rfl
    rotate_left
    · simp only [Act.put, List.setIfInBounds_toArray, List.set_cons_zero, List.set_cons_succ, i64_w, i32_w]
      rfl
    refine pure_ (i := 6) (N := some 20) (v := ?_) (a' := ?_) #[true, false, false, true, false, true, true, false, false, false, false, false] rfl rfl (any_of HT_.out (by kernel_rfl)) (fun _ _ _ h => h) (Or.inl ⟨by rfl, ?_⟩) ?_ ?_
    rotate_left
    · intro w'
      go_simp
      with_reducible rfl
    rotate_left
    · simp only [Act.put, List.setIfInBounds_toArray, List.set_cons_zero, List.set_cons_succ, i64_w, i32_w]
      rfl
    refine take_ (i := 1) (N := some 15) (v := ?_) (a' := ?_) #[true, true, false, true, false, true, true, false, false, false, false, false] rfl rfl (take_ofW HT_.out HW_.out (by kernel_rfl)) (fun _ _ _ h => h) (Or.inl ⟨by rfl, ?_⟩) hHeld ?_ ?_
    rotate_left
    · rintro w' ⟨s0, s1⟩
      go_simp
      with_reducible rfl
    rotate_left
    · simp only [Act.put, List.setIfInBounds_toArray, List.set_cons_zero, List.set_cons_succ, i64_w, i32_w]
      rfl
    refine take_ (i := 2) (N := some 16) (v := ?_) (a' := ?_) #[true, true, true, true, false, true, true, false, false, false, false, false] rfl rfl (take_ofW HT_.out HW_.out (by kernel_rfl)) (fun _ _ _ h => h) (Or.inl ⟨by rfl, ?_⟩) hHeld ?_ ?_
    rotate_left
    · rintro w' ⟨s0, s1⟩
      go_simp
      with_reducible rfl
    rotate_left
    · simp only [Act.put, List.setIfInBounds_toArray, List.set_cons_zero, List.set_cons_succ, i64_w, i32_w]
      rfl
    refine one_ (i := 4) (N := some 18) #[true, true, true, true, true, true, true, false, false, false, false, false] rfl rfl (one_of HT_.out (by kernel_rfl)) (by decide) (fun K hK => ?_)
    refine goes_ Tryd.func60 (by kernel_rfl) rfl #[.int .i64 a0] (by rfl) rfl rfl (by (try simp only [List.map_toArray, List.map_cons, List.map_nil]); first | done | rfl | (simp only [List.length_drop, List.length_take]; rfl)) ?_
    with_reducible refine (almanackerref03_Is.calls a0 t274 _ A4.out).mono ?_
    rintro e w' ⟨rfl, ⟨nd, rfl⟩⟩
    refine ⟨_, rfl, ?_⟩
    refine hK.out _ _ ⟨(blk_cell BK273.out 0).trans rfl, (blk_cell BK273.out 1).trans rfl⟩ (fun hHeld => ?_)
    clear hK K
    refine norm_ (a' := ?_) ?_ ?_
    rotate_left
    · show Act.put _ (some 18) _ = _
      simp only [Act.put, List.setIfInBounds_toArray, List.set_cons_zero, List.set_cons_succ, i64_w, i32_w]
      rfl
    refine one_ (i := 7) (N := some 21) #[true, true, true, true, true, true, true, true, false, false, false, false] rfl rfl (one_of HT_.out (by kernel_rfl)) (by decide) (fun K hK => ?_)
    refine goes_ Tryd.func60 (by kernel_rfl) rfl #[.int .i64 (wrap64 (a0 - 1))] (by rfl) rfl rfl (by (try simp only [List.map_toArray, List.map_cons, List.map_nil]); first | done | rfl | (simp only [List.length_drop, List.length_take]; rfl)) ?_
    with_reducible refine (almanackerref03_Is.calls (wrap64 (a0 - 1)) t275 _ A5.out).mono ?_
    rintro e w' ⟨rfl, ⟨nd, rfl⟩⟩
    refine ⟨_, rfl, ?_⟩
    refine hK.out _ _ ⟨(blk_cell BK273.out 0).trans rfl, (blk_cell BK273.out 1).trans rfl⟩ (fun hHeld => ?_)
    clear hK K
    refine norm_ (a' := ?_) ?_ ?_
    rotate_left
    · show Act.put _ (some 21) _ = _
      simp only [Act.put, List.setIfInBounds_toArray, List.set_cons_zero, List.set_cons_succ, i64_w, i32_w]
      rfl
    refine one_ (i := 8) (N := some 22) #[true, true, true, true, true, true, true, true, true, false, false, false] rfl rfl (one_of HT_.out (by kernel_rfl)) (by decide) (fun K hK => ?_)
    refine goes_ Tryd.func59 (by kernel_rfl) rfl #[.agg #[.int .i64 t270, .int .i64 t271], .bool t274, .bool t275] (by rfl) rfl rfl (by (try simp only [List.map_toArray, List.map_cons, List.map_nil]); first | done | rfl | (simp only [List.length_drop, List.length_take]; rfl)) ?_
    with_reducible refine (almanackerref05_Delay.calls k t270 t271 t274 t275 t276 _ A6.out).mono ?_
    rintro e w12 ⟨rfl, hb⟩
    refine ⟨_, rfl, ?_⟩
    have n0_ := Aside0.mk (blk_below (g := gb273) (o := .cells #[.int .i64 t270, .int .i64 t271] 86 (0, 0)) (by (with_reducible repeat (first | refine blk_drewN ?_ _ | refine blk_drew ?_ | refine blk_alloc ?_ _)); exact BK273.out) hb)
    have n1_ := Aside0.mk (below_step (by repeat (first | (with_reducible first | exact HB.out | apply below_alloc | apply pw_below_drewN | apply below_drew1 | refine below_set ?_ GE273.out) | exact HB.out)) hb)
    clear BK273
    clear HB
    have BK273 := n0_
    have HB := n1_
    clear n0_ n1_
    (try clear hb)
    (try clear hb2)
    (try clear hk)
    (try clear hi)
    refine hK.out _ _ ⟨(blk_cell BK273.out 0).trans rfl, (blk_cell BK273.out 1).trans rfl⟩ (fun hHeld => ?_)
    clear hK K
    refine norm_ (a' := ?_) ?_ ?_
    rotate_left
    · show Act.put _ (some 22) _ = _
      simp only [Act.put, List.setIfInBounds_toArray, List.set_cons_zero, List.set_cons_succ, i64_w, i32_w]
      rfl
    refine pure_ (i := 9) (N := some 23) (v := ?_) (a' := ?_) #[true, true, true, true, true, true, true, true, true, true, false, false] rfl rfl (any_of HT_.out (by kernel_rfl)) (fun _ _ _ h => h) (Or.inl ⟨by rfl, ?_⟩) ?_ ?_
    rotate_left
    · intro w'
      go_simp
      with_reducible rfl
    rotate_left
    · simp only [Act.put, List.setIfInBounds_toArray, List.set_cons_zero, List.set_cons_succ, i64_w, i32_w]
      rfl
    refine pure_ (i := 10) (N := some 2) (v := ?_) (a' := ?_) #[true, true, true, true, true, true, true, true, true, true, true, false] rfl rfl (any_of HT_.out (by kernel_rfl)) (fun _ _ _ h => h) (Or.inl ⟨by rfl, ?_⟩) ?_ ?_
    rotate_left
    · intro w'
      go_simp
      with_reducible rfl
    rotate_left
    · simp only [Act.put, List.setIfInBounds_toArray, List.set_cons_zero, List.set_cons_succ, i64_w, i32_w]
      rfl
    refine pure_ (i := 11) (N := some 3) (v := ?_) (a' := ?_) #[true, true, true, true, true, true, true, true, true, true, true, true] rfl rfl (any_of HT_.out (by kernel_rfl)) (fun _ _ _ h => h) (Or.inl ⟨by rfl, ?_⟩) ?_ ?_
    rotate_left
    · intro w'
      go_simp
      with_reducible rfl
    rotate_left
    · simp only [Act.put, List.setIfInBounds_toArray, List.set_cons_zero, List.set_cons_succ, i64_w, i32_w]
      rfl
    refine done_ (done_of HT_.out (by kernel_rfl)) ?_
    try go_wp2
    go_ret2
    exact ⟨by first | rfl | (simp [errW_none, errW_some] <;> rfl) | (simp [*, errW_none, errW_some] <;> rfl), by repeat (first | (with_reducible first | exact HB.out | apply below_alloc | apply pw_below_drewN | apply below_drew1 | refine below_set ?_ GE273.out) | exact HB.out)⟩
  · rw [if_neg c3] at H
    have c3b0 : (t272 == 0) = false := beq_eq_false_iff_ne.mpr c3
    have c3b1 : (t272 != 0) = true := bne_iff_ne.mpr c3
    simp only [Option.some.injEq, Prod.mk.injEq] at H
    obtain ⟨rfl, rfl⟩ := H
    go_enter Tryd.func34, Tryd.ntmps34
    go_wp2_with (first | ((with_reducible refine gate_callee (f := 58) rfl ?_); refine goesL_ (some 8) rfl rfl Tryd.func58 (by kernel_rfl) rfl #[.int .i64 a0, .int .i64 1] rfl (by (try simp only [List.map_toArray, List.map_cons, List.map_nil]); first | done | rfl | (simp only [List.length_drop, List.length_take]; rfl)) ?_; (with_reducible refine (almanackerref04_Of.calls k a0 1 t270 t271 t272 _ A2.out).mono ?_); rintro e w13 ⟨rfl, hb⟩; refine ⟨_, rfl, ?_⟩; have n0_ := Aside0.mk (below_step (by repeat (first | (with_reducible first | exact HB.out | apply below_alloc | apply pw_below_drewN | apply below_drew1) | exact HB.out)) hb); clear HB; have HB := n0_; clear n0_; (try clear hb); (try clear hb2); (try clear hk); (try clear hi)) | ((with_reducible refine gate_dst (N := 4) rfl ?_); refine box_event ?hg (N := 4) ?hd (cs := #[.int .i64 0, .int .i64 0]) (t := 86) ?hr ?_; (case hd => rfl); (case hg => rfl); (case hr => first | (go_simp; done) | (go_simp; rfl)); intro gb273 hg w14 hbox hb; have n0_ := Aside0.mk (below_step (by repeat (first | (with_reducible first | exact HB.out | apply below_alloc | apply pw_below_drewN | apply below_drew1) | exact HB.out)) hb); have n1_ := Aside0.mk (hbox); have n2_ := Aside0.mk ((by rw [hg]; exact (below_size (by repeat (first | (with_reducible first | exact HB.out | apply below_alloc | apply pw_below_drewN | apply below_drew1) | exact HB.out))) : w.heap.size ≤ gb273)); have n3_ := Aside0.mk ((by rw [hg]; exact (below_size (by repeat (first | (with_reducible first | exact HB.out | apply below_alloc | apply pw_below_drewN | apply below_drew1) | exact HB.out))) : w.heap.size ≤ gb273)); clear HB; have HB := n0_; have BK273 := n1_; have GW273 := n2_; have GE273 := n3_; clear n0_ n1_ n2_ n3_; clear hb hbox hg; have hcz15_0 : w14.cell? ⟨gb273, 0, none⟩ = some (.int .i64 0) := (blk_cell BK273.out 0).trans rfl; have hcz15_1 : w14.cell? ⟨gb273, 1, none⟩ = some (.int .i64 0) := (blk_cell BK273.out 1).trans rfl; have hfz15_0 := blk_frozen BK273.out 0; have hfz15_1 := blk_frozen BK273.out 1))
    go_ret2
    exact ⟨by first | rfl | (simp [errW_none, errW_some] <;> rfl) | (simp [*, errW_none, errW_some] <;> rfl), by repeat (first | (with_reducible first | exact HB.out | apply below_alloc | apply pw_below_drewN | apply below_drew1 | refine below_set ?_ GE273.out) | exact HB.out)⟩

end Go.Proofs.YtflpddhoiafhcaaDoor.S
end

section
-- Written by wip/hprint.py of this repo (holes typed by hand, all else by a program) over the seat YtflpddhoiafhcaaDoor.
namespace Go.Proofs.YtflpddhoiafhcaaDoor.S
open Go.Proofs.YtflpddhoiafhcaaDoor.H
open Go.RowKit Go.Proofs.YtflpddhoiafhcaaDoorW.PrintWords Go.Proofs.YtflpddhoiafhcaaDoorW.PrintLast Go.Proofs.YtflpddhoiafhcaaDoorW.PrintMore
attribute [local go_sem] max2_int min2_int max_two min_two max_three min_three max_four min_four   -- for this text's walks alone
set_option linter.unusedVariables false
set_option linter.unusedSimpArgs false

mutual
def almanackerlaw22_SpecialDays.j0 : Nat → List (S48) → Int → Int → Bool → Option (Bool)
  | 0, _, _, _, _ => none
  | k + 1, x4, x6, x8, x41 => if x41 = true then (some false) else (almanackerlaw22_SpecialDays.l0 k x4 x6 x8 0)
def almanackerlaw22_SpecialDays.l0 : Nat → List (S48) → Int → Int → Int → Option (Bool)
  | 0, _, _, _, _ => none
  | k + 1, x4, x6, x8, x10 => if x10 < (x4.length : Int) then (if 0 ≤ x10 then ((special_Named.f ((rd_T48 x4 x10).f1)).bind fun bt288 => ((almanackerref04_Weekday.f ((rd_T48 x4 x10).f1)).bind fun t290 => (if t290 = 6 then (if ((rd_T48 x4 x10).f1) < x6 then (almanackerlaw22_SpecialDays.j2 k x4 x6 x8 x10 true ((rd_T48 x4 x10).f0) ((rd_T48 x4 x10).f1)) else (if ((rd_T48 x4 x10).f1) ≥ x8 then (almanackerlaw22_SpecialDays.j2 k x4 x6 x8 x10 true ((rd_T48 x4 x10).f0) ((rd_T48 x4 x10).f1)) else (if x10 > 0 then (if 0 ≤ (wrap64 (x10 - 1)) then (if (wrap64 (x10 - 1)) < (x4.length : Int) then (if ((rd_T48 x4 x10).f1) ≤ ((rd_T48 x4 (wrap64 (x10 - 1))).f1) then (almanackerlaw22_SpecialDays.j2 k x4 x6 x8 x10 true ((rd_T48 x4 x10).f0) ((rd_T48 x4 x10).f1)) else (if bt288.2 = 0 then (if bt288.1 = ((rd_T48 x4 x10).f0) then (if ((rd_T48 x4 x10).f0) < 30 then (almanackerlaw22_SpecialDays.j2 k x4 x6 x8 x10 true ((rd_T48 x4 x10).f0) ((rd_T48 x4 x10).f1)) else (almanackerlaw22_SpecialDays.j2 k x4 x6 x8 x10 (decide (((rd_T48 x4 x10).f0) > 37)) ((rd_T48 x4 x10).f0) ((rd_T48 x4 x10).f1))) else (almanackerlaw22_SpecialDays.j2 k x4 x6 x8 x10 true ((rd_T48 x4 x10).f0) ((rd_T48 x4 x10).f1))) else (almanackerlaw22_SpecialDays.j2 k x4 x6 x8 x10 true ((rd_T48 x4 x10).f0) ((rd_T48 x4 x10).f1)))) else (none)) else (none)) else (if bt288.2 = 0 then (if bt288.1 = ((rd_T48 x4 x10).f0) then (if ((rd_T48 x4 x10).f0) < 30 then (almanackerlaw22_SpecialDays.j2 k x4 x6 x8 x10 true ((rd_T48 x4 x10).f0) ((rd_T48 x4 x10).f1)) else (almanackerlaw22_SpecialDays.j2 k x4 x6 x8 x10 (decide (((rd_T48 x4 x10).f0) > 37)) ((rd_T48 x4 x10).f0) ((rd_T48 x4 x10).f1))) else (almanackerlaw22_SpecialDays.j2 k x4 x6 x8 x10 true ((rd_T48 x4 x10).f0) ((rd_T48 x4 x10).f1))) else (almanackerlaw22_SpecialDays.j2 k x4 x6 x8 x10 true ((rd_T48 x4 x10).f0) ((rd_T48 x4 x10).f1)))))) else (almanackerlaw22_SpecialDays.j2 k x4 x6 x8 x10 true ((rd_T48 x4 x10).f0) ((rd_T48 x4 x10).f1))))) else (none)) else ((almanackerlaw22_awake.f k).bind fun t285 => (some t285))
def almanackerlaw22_SpecialDays.j2 : Nat → List (S48) → Int → Int → Int → Bool → Int → Int → Option (Bool)
  | 0, _, _, _, _, _, _, _ => none
  | k + 1, x4, x6, x8, x10, x108, x288000, x288001 => if x108 = true then (some false) else (if x288000 = 35 then (if x288001 ≥ (wrap64 (x6 + 9)) then (almanackerlaw22_SpecialDays.j3 k x4 x6 x8 x10 true x288000 x288001) else (if x288000 = 37 then (if x288001 < (wrap64 (x8 - 50)) then (almanackerlaw22_SpecialDays.j3 k x4 x6 x8 x10 true x288000 x288001) else (if x288000 = 34 then (if x288001 ≥ (wrap64 (x8 - 163)) then (almanackerlaw22_SpecialDays.j3 k x4 x6 x8 x10 true x288000 x288001) else (almanackerlaw22_SpecialDays.j3 k x4 x6 x8 x10 (decide (x288001 < (wrap64 (x8 - 170)))) x288000 x288001)) else (almanackerlaw22_SpecialDays.j3 k x4 x6 x8 x10 false x288000 x288001))) else (if x288000 = 34 then (if x288001 ≥ (wrap64 (x8 - 163)) then (almanackerlaw22_SpecialDays.j3 k x4 x6 x8 x10 true x288000 x288001) else (almanackerlaw22_SpecialDays.j3 k x4 x6 x8 x10 (decide (x288001 < (wrap64 (x8 - 170)))) x288000 x288001)) else (almanackerlaw22_SpecialDays.j3 k x4 x6 x8 x10 false x288000 x288001)))) else (if x288000 = 37 then (if x288001 < (wrap64 (x8 - 50)) then (almanackerlaw22_SpecialDays.j3 k x4 x6 x8 x10 true x288000 x288001) else (if x288000 = 34 then (if x288001 ≥ (wrap64 (x8 - 163)) then (almanackerlaw22_SpecialDays.j3 k x4 x6 x8 x10 true x288000 x288001) else (almanackerlaw22_SpecialDays.j3 k x4 x6 x8 x10 (decide (x288001 < (wrap64 (x8 - 170)))) x288000 x288001)) else (almanackerlaw22_SpecialDays.j3 k x4 x6 x8 x10 false x288000 x288001))) else (if x288000 = 34 then (if x288001 ≥ (wrap64 (x8 - 163)) then (almanackerlaw22_SpecialDays.j3 k x4 x6 x8 x10 true x288000 x288001) else (almanackerlaw22_SpecialDays.j3 k x4 x6 x8 x10 (decide (x288001 < (wrap64 (x8 - 170)))) x288000 x288001)) else (almanackerlaw22_SpecialDays.j3 k x4 x6 x8 x10 false x288000 x288001))))
def almanackerlaw22_SpecialDays.j3 : Nat → List (S48) → Int → Int → Int → Bool → Int → Int → Option (Bool)
  | 0, _, _, _, _, _, _, _ => none
  | k + 1, x4, x6, x8, x10, x149, x288000, x288001 => if x149 = true then (some false) else (almanackerlaw22_SpecialDays.l1 k x4 x6 x8 x10 0 x288000 x288001)
def almanackerlaw22_SpecialDays.l1 : Nat → List (S48) → Int → Int → Int → Int → Int → Int → Option (Bool)
  | 0, _, _, _, _, _, _, _ => none
  | k + 1, x4, x6, x8, x10, x14, x288000, x288001 => if x14 < x10 then (if 0 ≤ x14 then (if x14 < (x4.length : Int) then (if ((rd_T48 x4 x14).f0) = x288000 then (some false) else (almanackerlaw22_SpecialDays.l1 k x4 x6 x8 x10 (wrap64 (x14 + 1)) x288000 x288001)) else (none)) else (none)) else (almanackerlaw22_SpecialDays.l0 k x4 x6 x8 (wrap64 (x10 + 1)))
end
def almanackerlaw22_SpecialDays.f (k : Nat) (a0 : Int) : Option (Bool) := (special_Of.f k (wrap64 (1 + (Int.tmod (wrap64 (a0)) 9999)))).bind fun bt277 => ((almanackerref05_First.f k (wrap64 (1 + (Int.tmod (wrap64 (a0)) 9999)))).bind fun bt281 => ((almanackerref05_First.f k (wrap64 ((wrap64 (1 + (Int.tmod (wrap64 (a0)) 9999))) + 1))).bind fun bt283 => (if bt277.2 = 0 then (almanackerlaw22_SpecialDays.j0 k bt277.1 bt281.1 bt283.1 ((bt277.1.length : Int) != 8)) else (almanackerlaw22_SpecialDays.j0 k bt277.1 bt281.1 bt283.1 true))))
def almanackerlaw22_SpecialDays.T12 : Bool × List (List Nat × List Nat) := (true, [([], []), ([0], [0]), ([1], [1]), ([2], [2]), ([3, 2], [3]), ([4], [4]), ([5, 4], [4, 5]), ([4], [4]), ([6, 7, 4], [4, 6, 7]), ([4, 8], [4, 8]), ([9, 4], [9]), ([10], [10]), ([11, 10], [10, 11]), ([10], [10]), ([12, 13, 10], [10, 12, 13]), ([10, 14], [10, 14]), ([15, 10], [15]), ([16], [16]), ([17, 16], [16, 17]), ([18, 16, 16], [16, 18]), ([19], [19]), ([20, 19], [19, 20]), ([19], [19]), ([19], [19]), ([23, 19], [19, 23]), ([22, 24, 19], [19, 22, 24]), ([25, 19], [19, 25]), ([26, 19], [19, 26]), ([21, 27, 19], [19, 21, 27]), ([19, 28, 16], [16, 19, 28]), ([16, 29], [16, 29]), ([30, 19], [30]), ([31], [31]), ([32, 31], [31, 32]), ([31, 33], [31, 33]), ([34, 31], [34]), ([35], [35]), ([35], [35]), ([37, 35], [35, 37]), ([36, 38, 35], [35, 36, 38]), ([35, 39], [35, 39]), ([40, 35], [40]), ([41], [41]), ([42, 41], [41, 42]), ([43, 41], [41, 43]), ([41, 44], [41, 44]), ([45, 41], [45]), ([46], [46]), ([47, 46], [46, 47]), ([48, 46], [46, 48]), ([46, 49], [46, 49])])
def almanackerlaw22_SpecialDays.B12 : List Nat := [0, 1, 3, 7, 15, 31, 63, 31, 255, 511, 1023, 2047, 4095, 2047, 16383, 32767, 65535, 131071, 262143, 524287, 1048575, 2097151, 1048575, 1048575, 9437183, 30408703, 63963135, 131071999, 268435455, 536870911, 1073741823, 2147483647, 4294967295, 8589934591, 17179869183, 34359738367, 68719476735, 68719476735, 206158430207, 549755813887, 1099511627775, 2199023255551, 4398046511103, 8796093022207, 17592186044415, 35184372088831, 70368744177663, 140737488355327, 281474976710655, 562949953421311, 1125899906842623]
theorem almanackerlaw22_SpecialDays.tab12 : rtab .any (opsOf Tryd.f10 12) = almanackerlaw22_SpecialDays.T12 := by kernel_rfl
theorem almanackerlaw22_SpecialDays.bits12 : waitsOk almanackerlaw22_SpecialDays.T12.2 almanackerlaw22_SpecialDays.B12 = true := by kernel_rfl
def almanackerlaw22_SpecialDays.T19 : Bool × List (List Nat × List Nat) := (true, [([], []), ([], []), ([0, 1], [0, 1]), ([2], [2]), ([3], [3]), ([], []), ([5], [5]), ([4, 6], [4, 6])])
def almanackerlaw22_SpecialDays.B19 : List Nat := [0, 0, 3, 7, 15, 0, 32, 127]
theorem almanackerlaw22_SpecialDays.tab19 : rtab .any (opsOf Tryd.f10 19) = almanackerlaw22_SpecialDays.T19 := by kernel_rfl
theorem almanackerlaw22_SpecialDays.bits19 : waitsOk almanackerlaw22_SpecialDays.T19.2 almanackerlaw22_SpecialDays.B19 = true := by kernel_rfl
end Go.Proofs.YtflpddhoiafhcaaDoor.S
end
