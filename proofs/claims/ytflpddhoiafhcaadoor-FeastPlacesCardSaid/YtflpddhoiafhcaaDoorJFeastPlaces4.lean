/- Texts of the proof of 'FeastPlaces', joined by a program (part 4): contracts of functions, plain laws. -/
import Derived.Test.YtflpddhoiafhcaaDoorJFeastPlaces2
import Derived.Test.YtflpddhoiafhcaaDoorJFeastPlaces3
section
-- Written by wip/hprint.py of this repo (holes typed by hand, all else by a program) over the seat YtflpddhoiafhcaaDoor.
namespace Go.Proofs.YtflpddhoiafhcaaDoor.P
open Go.Proofs.YtflpddhoiafhcaaDoor.H
open Go.RowKit Go.Proofs.YtflpddhoiafhcaaDoorW.PrintWords Go.Proofs.YtflpddhoiafhcaaDoorW.PrintLast Go.Proofs.YtflpddhoiafhcaaDoorW.PrintMore
attribute [local go_sem] max2_int min2_int max_two min_two max_three min_three max_four min_four   -- for this text's walks alone
set_option linter.unusedVariables false
set_option linter.unusedSimpArgs false

def heb_ToDay.f (k : Nat) (a0_0 : Int) (a0_1 : Int) (a0_2 : Bool) (a0_3 : Int) : Option (Int × Int) := (heb_look.f k a0_0 a0_1 a0_2 a0_3).bind fun bt182 => (if bt182.2.2.2.2 = 0 then ((newyear_First.f k a0_0).bind fun bt188 => ((month_Ahead.f bt182.1 bt182.2.1 bt182.2.2.1 bt182.2.2.2.1).bind fun t190 => (some (wrap64 ((wrap64 ((wrap64 (bt188.1 + t190)) + a0_3)) - 1), bt188.2)))) else (some (0, bt182.2.2.2.2)))
theorem heb_ToDay.mono : ∀ a0 a1 a2 a3 k, LeO (heb_ToDay.f k a0 a1 a2 a3) (heb_ToDay.f (k + 1) a0 a1 a2 a3) := by
  intro a0 a1 a2 a3 k
  unfold heb_ToDay.f
  repeat' first
      | (with_reducible exact heb_look.mono _ _ _ _ _)
      | (with_reducible exact newyear_First.mono _ _)
      | (with_reducible exact LeO.refl _)
      | (with_reducible exact LeO.none _)
      | (with_reducible refine LeO.ite ?_ ?_)
      | (with_reducible refine LeO.bind ?_ (fun _ => ?_))
      | exact heb_look.mono _ _ _ _ _
      | exact newyear_First.mono _ _
      | exact LeO.none _
      | refine LeO.ite ?_ ?_
      | refine LeO.bind ?_ (fun _ => ?_)
def heb_ToDay.T5 : Bool × List (List Nat × List Nat) := (true, [([], []), ([], []), ([1], [1]), ([], []), ([3], [3]), ([2, 4], [2, 4]), ([0, 5], [0, 5]), ([], []), ([7], [7]), ([6, 8], [6, 8]), ([9], [9]), ([], []), ([10, 5, 0, 1, 2, 3, 4, 5, 6, 7, 8, 9, 10], [10]), ([11, 12, 0, 1, 2, 3, 4, 5, 6, 7, 8, 9, 10, 11, 12], [11])])
def heb_ToDay.B5 : List Nat := [0, 0, 2, 0, 8, 30, 63, 0, 128, 511, 1023, 0, 2047, 8191]
theorem heb_ToDay.tab5 : rtab .any (opsOf Tryd.f52 5) = heb_ToDay.T5 := by kernel_rfl
theorem heb_ToDay.bits5 : waitsOk heb_ToDay.T5.2 heb_ToDay.B5 = true := by kernel_rfl
set_option maxHeartbeats 8000000 in
set_option maxRecDepth 100000 in
theorem heb_ToDay.calls (k : Nat) (a0_0 : Int) (a0_1 : Int) (a0_2 : Bool) (a0_3 : Int) (r1 : Int) (r2 : Int) (w : World) (HGT : GlobT w) (h : heb_ToDay.f k a0_0 a0_1 a0_2 a0_3 = some (r1, r2)) :
    Calls Tryd.prog 52 #[.agg #[.int .i64 a0_0, .int .i64 a0_1, .bool a0_2, .int .i64 a0_3]] w fun e w' => e = .returned (.tuple #[.int .i64 r1, .int .i64 r2]) ∧ Below w.heap.size w w' := by
  have hu77 := Tryd.underlying77
  have hu113 := Tryd.underlying113
  have hu111 := Tryd.underlying111
  have HB := Aside0.mk (Below.refl w.heap.size w)
  have H : ((heb_look.f k a0_0 a0_1 a0_2 a0_3).bind fun bt182 => (if bt182.2.2.2.2 = 0 then ((newyear_First.f k a0_0).bind fun bt188 => ((month_Ahead.f bt182.1 bt182.2.1 bt182.2.2.1 bt182.2.2.2.1).bind fun t190 => (some (wrap64 ((wrap64 ((wrap64 (bt188.1 + t190)) + a0_3)) - 1), bt188.2)))) else (some (0, bt182.2.2.2.2)))) = some (r1, r2) := h
  clear h
  replace H := Option.bind_eq_some_iff.mp H
  obtain ⟨⟨t182, t183, t184, t185, t186⟩, A20, H⟩ := H
  replace H : (if t186 = 0 then ((newyear_First.f k a0_0).bind fun bt188 => ((month_Ahead.f t182 t183 t184 t185).bind fun t190 => (some (wrap64 ((wrap64 ((wrap64 (bt188.1 + t190)) + a0_3)) - 1), bt188.2)))) else (some (0, t186))) = some (r1, r2) := H
  have A2 := Aside0.mk A20
  clear A20
  by_cases c3 : t186 = 0
  · rw [if_pos c3] at H
    have c3b0 : (t186 == 0) = true := beq_iff_eq.mpr c3
    have c3b1 : (t186 != 0) = false := bne_eq_false_iff_eq.mpr c3
    clear c3
    replace H := Option.bind_eq_some_iff.mp H
    obtain ⟨⟨t188, t189⟩, A40, H⟩ := H
    replace H : ((month_Ahead.f t182 t183 t184 t185).bind fun t190 => (some (wrap64 ((wrap64 ((wrap64 (t188 + t190)) + a0_3)) - 1), t189))) = some (r1, r2) := H
    have A4 := Aside0.mk A40
    clear A40
    replace H := Option.bind_eq_some_iff.mp H
    obtain ⟨t190, A50, H⟩ := H
    replace H : (some (wrap64 ((wrap64 ((wrap64 (t188 + t190)) + a0_3)) - 1), t189)) = some (r1, r2) := H
    have A5 := Aside0.mk A50
    clear A50
    simp only [Option.some.injEq, Prod.mk.injEq] at H
    obtain ⟨rfl, rfl⟩ := H
    go_enter Tryd.func52, Tryd.ntmps52
    try go_wp2_with (first | ((with_reducible refine gate_dst (N := 1) rfl ?_); refine box_event ?hg (N := 1) ?hd (cs := #[.int .i64 a0_0, .int .i64 a0_1, .bool a0_2, .int .i64 a0_3]) (t := 77) ?hr ?_; (case hd => rfl); (case hg => rfl); (case hr => first | (go_simp; done) | (go_simp; rfl)); intro gb181 hg w6 hbox hb; have n0_ := Aside0.mk (below_step (by repeat (first | (with_reducible first | exact HB.out | apply below_alloc | apply pw_below_drewN | apply below_drew1) | exact HB.out)) hb); have n1_ := Aside0.mk (hbox); have n2_ := Aside0.mk ((by rw [hg]; exact (below_size (by repeat (first | (with_reducible first | exact HB.out | apply below_alloc | apply pw_below_drewN | apply below_drew1) | exact HB.out))) : w.heap.size ≤ gb181)); have n3_ := Aside0.mk ((by rw [hg]; exact (below_size (by repeat (first | (with_reducible first | exact HB.out | apply below_alloc | apply pw_below_drewN | apply below_drew1) | exact HB.out))) : w.heap.size ≤ gb181)); clear HB; have HB := n0_; have BK181 := n1_; have GW181 := n2_; have GE181 := n3_; clear n0_ n1_ n2_ n3_; clear hb hbox hg; have hcz7_0 : w6.cell? ⟨gb181, 0, none⟩ = some (.int .i64 a0_0) := (blk_cell BK181.out 0).trans rfl; have hcz7_1 : w6.cell? ⟨gb181, 1, none⟩ = some (.int .i64 a0_1) := (blk_cell BK181.out 1).trans rfl; have hcz7_2 : w6.cell? ⟨gb181, 2, none⟩ = some (.bool a0_2) := (blk_cell BK181.out 2).trans rfl; have hcz7_3 : w6.cell? ⟨gb181, 3, none⟩ = some (.int .i64 a0_3) := (blk_cell BK181.out 3).trans rfl; have hfz7_0 := blk_frozen BK181.out 0; have hfz7_1 := blk_frozen BK181.out 1; have hfz7_2 := blk_frozen BK181.out 2; have hfz7_3 := blk_frozen BK181.out 3) | ((with_reducible refine gate_callee (f := 84) rfl ?_); refine goesL_ (some 9) rfl rfl Tryd.func84 (by kernel_rfl) rfl #[.agg #[.int .i64 a0_0, .int .i64 a0_1, .bool a0_2, .int .i64 a0_3]] rfl (by (try simp only [List.map_toArray, List.map_cons, List.map_nil]); first | done | rfl | (simp only [List.length_drop, List.length_take]; rfl)) ?_; (with_reducible refine (heb_look.calls k a0_0 a0_1 a0_2 a0_3 t182 t183 t184 t185 t186 _ ?side1 A2.out).mono ?_); (case side1 => exact GlobT.below HGT (by repeat (first | (with_reducible first | exact HB.out | apply below_alloc | apply pw_below_drewN | apply below_drew1 | refine below_set ?_ GE181.out) | exact HB.out))); rintro e w8 ⟨rfl, hb⟩; refine ⟨_, rfl, ?_⟩; have n0_ := Aside0.mk (blk_below (g := gb181) (o := .cells #[.int .i64 a0_0, .int .i64 a0_1, .bool a0_2, .int .i64 a0_3] 77 (0, 0)) (by (with_reducible repeat (first | refine blk_drewN ?_ _ | refine blk_drew ?_ | refine blk_alloc ?_ _)); exact BK181.out) hb); have n1_ := Aside0.mk (below_step (by repeat (first | (with_reducible first | exact HB.out | apply below_alloc | apply pw_below_drewN | apply below_drew1 | refine below_set ?_ GE181.out) | exact HB.out)) hb); clear BK181; clear HB; have BK181 := n0_; have HB := n1_; clear n0_ n1_; (try clear hb); (try clear hb2); (try clear hk); (try clear hi)) | ((with_reducible refine gate_dst (N := 4) rfl ?_); refine box_event ?hg (N := 4) ?hd (cs := #[.int .i64 0, .int .i64 0, .bool false, .int .i64 0]) (t := 113) ?hr ?_; (case hd => rfl); (case hg => rfl); (case hr => first | (go_simp; done) | (go_simp; rfl)); intro gb187 hg w9 hbox hb; have n0_ := Aside0.mk (blk_below (g := gb181) (o := .cells #[.int .i64 a0_0, .int .i64 a0_1, .bool a0_2, .int .i64 a0_3] 77 (0, 0)) (by (with_reducible repeat (first | refine blk_drewN ?_ _ | refine blk_drew ?_ | refine blk_alloc ?_ _)); exact BK181.out) hb); have n1_ := Aside0.mk (below_step (by repeat (first | (with_reducible first | exact HB.out | apply below_alloc | apply pw_below_drewN | apply below_drew1 | refine below_set ?_ GE181.out) | exact HB.out)) hb); have n2_ := Aside0.mk (hbox); have n3_ := Aside0.mk ((by rw [hg]; exact (below_size (by repeat (first | (with_reducible first | exact HB.out | apply below_alloc | apply pw_below_drewN | apply below_drew1 | refine below_set ?_ GE181.out) | exact HB.out))) : w.heap.size ≤ gb187)); have n4_ := Aside0.mk ((by rw [hg]; exact (below_size (by repeat (first | (with_reducible first | exact HB.out | apply below_alloc | apply pw_below_drewN | apply below_drew1 | refine below_set ?_ GE181.out) | exact HB.out))) : w.heap.size ≤ gb187)); have n5_ := Aside0.mk ((by rw [hg]; exact Nat.ne_of_lt (blk_lt (g := gb181) (o := .cells #[.int .i64 a0_0, .int .i64 a0_1, .bool a0_2, .int .i64 a0_3] 77 (0, 0)) (by (with_reducible repeat (first | refine blk_drewN ?_ _ | refine blk_drew ?_ | refine blk_alloc ?_ _)); exact BK181.out)) : gb181 ≠ gb187)); have n6_ := Aside0.mk ((by rw [hg]; exact Nat.ne_of_gt (blk_lt (g := gb181) (o := .cells #[.int .i64 a0_0, .int .i64 a0_1, .bool a0_2, .int .i64 a0_3] 77 (0, 0)) (by (with_reducible repeat (first | refine blk_drewN ?_ _ | refine blk_drew ?_ | refine blk_alloc ?_ _)); exact BK181.out)) : gb187 ≠ gb181)); clear BK181; clear HB; have BK181 := n0_; have HB := n1_; have BK187 := n2_; have GW187 := n3_; have GE187 := n4_; have NB181_187 := n5_; have NB187_181 := n6_; clear n0_ n1_ n2_ n3_ n4_ n5_ n6_; clear hb hbox hg; have hnb10 := NB187_181.out; have hnc10 := NB181_187.out; have hcz11_0 : w9.cell? ⟨gb187, 0, none⟩ = some (.int .i64 0) := (blk_cell BK187.out 0).trans rfl; have hcz11_1 : w9.cell? ⟨gb187, 1, none⟩ = some (.int .i64 0) := (blk_cell BK187.out 1).trans rfl; have hcz11_2 : w9.cell? ⟨gb187, 2, none⟩ = some (.bool false) := (blk_cell BK187.out 2).trans rfl; have hcz11_3 : w9.cell? ⟨gb187, 3, none⟩ = some (.int .i64 0) := (blk_cell BK187.out 3).trans rfl; have hfz11_0 := blk_frozen BK187.out 0; have hfz11_1 := blk_frozen BK187.out 1; have hfz11_2 := blk_frozen BK187.out 2; have hfz11_3 := blk_frozen BK187.out 3; have hcz12_0 : w9.cell? ⟨gb181, 0, none⟩ = some (.int .i64 a0_0) := (blk_cell BK181.out 0).trans rfl; have hcz12_1 : w9.cell? ⟨gb181, 1, none⟩ = some (.int .i64 a0_1) := (blk_cell BK181.out 1).trans rfl; have hcz12_2 : w9.cell? ⟨gb181, 2, none⟩ = some (.bool a0_2) := (blk_cell BK181.out 2).trans rfl; have hcz12_3 : w9.cell? ⟨gb181, 3, none⟩ = some (.int .i64 a0_3) := (blk_cell BK181.out 3).trans rfl; have hfz12_0 := blk_frozen BK181.out 0; have hfz12_1 := blk_frozen BK181.out 1; have hfz12_2 := blk_frozen BK181.out 2; have hfz12_3 := blk_frozen BK181.out 3) | ((with_reducible refine gate_callee (f := 85) rfl ?_); refine goesL_ (some 18) rfl rfl Tryd.func85 (by kernel_rfl) rfl #[.int .i64 a0_0] rfl (by (try simp only [List.map_toArray, List.map_cons, List.map_nil]); first | done | rfl | (simp only [List.length_drop, List.length_take]; rfl)) ?_; (with_reducible refine (newyear_First.calls k a0_0 t188 t189 _ A4.out).mono ?_); rintro e w13 ⟨rfl, hb⟩; refine ⟨_, rfl, ?_⟩; have n0_ := Aside0.mk (blk_below (g := gb181) (o := .cells #[.int .i64 a0_0, .int .i64 a0_1, .bool a0_2, .int .i64 a0_3] 77 (0, 0)) (by (with_reducible repeat (first | refine blk_drewN ?_ _ | refine blk_drew ?_ | refine blk_alloc ?_ _)); refine blk_far ?_ NB181_187.out _; (with_reducible repeat (first | refine blk_drewN ?_ _ | refine blk_drew ?_ | refine blk_alloc ?_ _)); refine blk_far ?_ NB181_187.out _; (with_reducible repeat (first | refine blk_drewN ?_ _ | refine blk_drew ?_ | refine blk_alloc ?_ _)); refine blk_far ?_ NB181_187.out _; (with_reducible repeat (first | refine blk_drewN ?_ _ | refine blk_drew ?_ | refine blk_alloc ?_ _)); refine blk_far ?_ NB181_187.out _; (with_reducible repeat (first | refine blk_drewN ?_ _ | refine blk_drew ?_ | refine blk_alloc ?_ _)); exact BK181.out) hb); have n1_ := Aside0.mk (blk_below (g := gb187) (o := .cells #[.int .i64 t182, .int .i64 t183, .bool t184, .int .i64 t185] 113 (0, 0)) (by (with_reducible repeat (first | refine blk_drewN ?_ _ | refine blk_drew ?_ | refine blk_alloc ?_ _)); refine blk_put (cs := #[.int .i64 t182, .int .i64 t183, .bool t184, .int .i64 0]) ?_ 3 _ rfl; (with_reducible repeat (first | refine blk_drewN ?_ _ | refine blk_drew ?_ | refine blk_alloc ?_ _)); refine blk_put (cs := #[.int .i64 t182, .int .i64 t183, .bool false, .int .i64 0]) ?_ 2 _ rfl; (with_reducible repeat (first | refine blk_drewN ?_ _ | refine blk_drew ?_ | refine blk_alloc ?_ _)); refine blk_put (cs := #[.int .i64 t182, .int .i64 0, .bool false, .int .i64 0]) ?_ 1 _ rfl; (with_reducible repeat (first | refine blk_drewN ?_ _ | refine blk_drew ?_ | refine blk_alloc ?_ _)); refine blk_put (cs := #[.int .i64 0, .int .i64 0, .bool false, .int .i64 0]) ?_ 0 _ rfl; (with_reducible repeat (first | refine blk_drewN ?_ _ | refine blk_drew ?_ | refine blk_alloc ?_ _)); exact BK187.out) hb); have n2_ := Aside0.mk (below_step (by repeat (first | (with_reducible first | exact HB.out | apply below_alloc | apply pw_below_drewN | apply below_drew1 | refine below_set ?_ GE181.out | refine below_set ?_ GE187.out) | exact HB.out)) hb); clear BK181; clear BK187; clear HB; have BK181 := n0_; have BK187 := n1_; have HB := n2_; clear n0_ n1_ n2_; (try clear hb); (try clear hb2); (try clear hk); (try clear hi)))
    have n0_ := Aside0.mk (blk_drew BK181.out)
    have n1_ := Aside0.mk (blk_drew BK187.out)
    have n2_ := Aside0.mk (below_drew1 HB.out)
    clear BK181
    clear BK187
    clear HB
    have BK181 := n0_
    have BK187 := n1_
    have HB := n2_
    clear n0_ n1_ n2_
    refine start_ (n := 14) (S := fun w' => w'.cell? ⟨gb187, 0, none⟩ = some (.int .i64 t182) ∧ w'.cell? ⟨gb187, 1, none⟩ = some (.int .i64 t183) ∧ w'.cell? ⟨gb187, 2, none⟩ = some (.bool t184) ∧ w'.cell? ⟨gb187, 3, none⟩ = some (.int .i64 t185) ∧ w'.cell? ⟨gb181, 0, none⟩ = some (.int .i64 a0_0) ∧ w'.cell? ⟨gb181, 1, none⟩ = some (.int .i64 a0_1) ∧ w'.cell? ⟨gb181, 2, none⟩ = some (.bool a0_2) ∧ w'.cell? ⟨gb181, 3, none⟩ = some (.int .i64 a0_3)) (ds := []) #[false, false, false, false, false, false, false, false, false, false, false, false, false, false] (by kernel_rfl) rfl rfl ⟨(blk_cell BK187.out 0).trans rfl, (blk_cell BK187.out 1).trans rfl, (blk_cell BK187.out 2).trans rfl, (blk_cell BK187.out 3).trans rfl, (blk_cell BK181.out 0).trans rfl, (blk_cell BK181.out 1).trans rfl, (blk_cell BK181.out 2).trans rfl, (blk_cell BK181.out 3).trans rfl⟩ (fun hHeld => ?_); refine with_tabW heb_ToDay.tab5 heb_ToDay.bits5 (fun HT_ HW_ => ?_)
    generalize w13.drew = w14 at BK181 BK187 HB hHeld ⊢
    refine pure_ (i := 0) (N := some 21) (v := ?_) (a' := ?_) #[true, false, false, false, false, false, false, false, false, false, false, false, false, false] rfl rfl (any_of HT_.out (by kernel_rfl)) (fun _ _ _ h => h) (Or.inl ⟨by rfl, ?_⟩) ?_ ?_
    rotate_left
    · intro w'
      go_simp
      with_reducible rfl
    rotate_left
    · simp only [Act.put, List.setIfInBounds_toArray, List.set_cons_zero, List.set_cons_succ, i64_w, i32_w]
      rfl
    refine pure_ (i := 1) (N := some 22) (v := ?_) (a' := ?_) #[true, true, false, false, false, false, false, false, false, false, false, false, false, false] rfl rfl (any_of HT_.out (by kernel_rfl)) (fun _ _ _ h => h) (Or.inl ⟨by rfl, ?_⟩) ?_ ?_
    rotate_left
    · intro w'
      go_simp
      with_reducible rfl
    rotate_left
    · simp only [Act.put, List.setIfInBounds_toArray, List.set_cons_zero, List.set_cons_succ, i64_w, i32_w]
      rfl
    refine pure_ (i := 3) (N := some 24) (v := ?_) (a' := ?_) #[true, true, false, true, false, false, false, false, false, false, false, false, false, false] rfl rfl (any_of HT_.out (by kernel_rfl)) (fun _ _ _ h => h) (Or.inl ⟨by rfl, ?_⟩) ?_ ?_
    rotate_left
    · intro w'
      go_simp
      with_reducible rfl
    rotate_left
    · simp only [Act.put, List.setIfInBounds_toArray, List.set_cons_zero, List.set_cons_succ, i64_w, i32_w]
      rfl
    refine pure_ (i := 7) (N := some 28) (v := ?_) (a' := ?_) #[true, true, false, true, false, false, false, true, false, false, false, false, false, false] rfl rfl (any_of HT_.out (by kernel_rfl)) (fun _ _ _ h => h) (Or.inl ⟨by rfl, ?_⟩) ?_ ?_
    rotate_left
    · intro w'
      go_simp
      with_reducible rfl
    rotate_left
    · simp only [Act.put, List.setIfInBounds_toArray, List.set_cons_zero, List.set_cons_succ, i64_w, i32_w]
      rfl
    refine pure_ (i := 11) (N := some 32) (v := ?_) (a' := ?_) #[true, true, false, true, false, false, false, true, false, false, false, true, false, false] rfl rfl (any_of HT_.out (by kernel_rfl)) (fun _ _ _ h => h) (Or.inl ⟨by rfl, ?_⟩) ?_ ?_
    rotate_left
    · intro w'
      go_simp
      with_reducible rfl
    rotate_left
    · simp only [Act.put, List.setIfInBounds_toArray, List.set_cons_zero, List.set_cons_succ, i64_w, i32_w]
      rfl
    refine take_ (i := 2) (N := some 23) (v := ?_) (a' := ?_) #[true, true, true, true, false, false, false, true, false, false, false, true, false, false] rfl rfl (take_ofW HT_.out HW_.out (by kernel_rfl)) (fun _ _ _ h => h) (Or.inl ⟨by rfl, ?_⟩) hHeld ?_ ?_
    rotate_left
    · rintro w' ⟨s0, s1, s2, s3, s4, s5, s6, s7⟩
      go_simp
      with_reducible rfl
    rotate_left
    · simp only [Act.put, List.setIfInBounds_toArray, List.set_cons_zero, List.set_cons_succ, i64_w, i32_w]
      rfl
    refine take_ (i := 4) (N := some 25) (v := ?_) (a' := ?_) #[true, true, true, true, true, false, false, true, false, false, false, true, false, false] rfl rfl (take_ofW HT_.out HW_.out (by kernel_rfl)) (fun _ _ _ h => h) (Or.inl ⟨by rfl, ?_⟩) hHeld ?_ ?_
    rotate_left
    · rintro w' ⟨s0, s1, s2, s3, s4, s5, s6, s7⟩
      go_simp
      with_reducible rfl
    rotate_left
    · simp only [Act.put, List.setIfInBounds_toArray, List.set_cons_zero, List.set_cons_succ, i64_w, i32_w]
      rfl
    refine take_ (i := 8) (N := some 29) (v := ?_) (a' := ?_) #[true, true, true, true, true, false, false, true, true, false, false, true, false, false] rfl rfl (take_ofW HT_.out HW_.out (by kernel_rfl)) (fun _ _ _ h => h) (Or.inl ⟨by rfl, ?_⟩) hHeld ?_ ?_
    rotate_left
    · rintro w' ⟨s0, s1, s2, s3, s4, s5, s6, s7⟩
      go_simp
      with_reducible rfl
    rotate_left
    · simp only [Act.put, List.setIfInBounds_toArray, List.set_cons_zero, List.set_cons_succ, i64_w, i32_w]
      rfl
    refine one_ (i := 5) (N := some 26) #[true, true, true, true, true, true, false, true, true, false, false, true, false, false] rfl rfl (one_of HT_.out (by kernel_rfl)) (by decide) (fun K hK => ?_)
    refine goes_ Tryd.func86 (by kernel_rfl) rfl #[.agg #[.int .i64 t182, .int .i64 t183, .bool t184], .int .i64 t185] (by rfl) rfl rfl (by (try simp only [List.map_toArray, List.map_cons, List.map_nil]); first | done | rfl | (simp only [List.length_drop, List.length_take]; rfl)) ?_
    with_reducible refine (month_Ahead.calls t182 t183 t184 t185 t190 _ ?side1 A5.out).mono ?_
    (case side1 => exact GlobT.below HGT (by repeat (first | (with_reducible first | exact HB.out | apply below_alloc | apply pw_below_drewN | apply below_drew1 | refine below_set ?_ GE181.out | refine below_set ?_ GE187.out) | exact HB.out)))
    rintro e w15 ⟨rfl, hb⟩
    refine ⟨_, rfl, ?_⟩
    have n0_ := Aside0.mk (blk_below (g := gb181) (o := .cells #[.int .i64 a0_0, .int .i64 a0_1, .bool a0_2, .int .i64 a0_3] 77 (0, 0)) (by (with_reducible repeat (first | refine blk_drewN ?_ _ | refine blk_drew ?_ | refine blk_alloc ?_ _)); exact BK181.out) hb)
    have n1_ := Aside0.mk (blk_below (g := gb187) (o := .cells #[.int .i64 t182, .int .i64 t183, .bool t184, .int .i64 t185] 113 (0, 0)) (by (with_reducible repeat (first | refine blk_drewN ?_ _ | refine blk_drew ?_ | refine blk_alloc ?_ _)); exact BK187.out) hb)
    have n2_ := Aside0.mk (below_step (by repeat (first | (with_reducible first | exact HB.out | apply below_alloc | apply pw_below_drewN | apply below_drew1 | refine below_set ?_ GE181.out | refine below_set ?_ GE187.out) | exact HB.out)) hb)
    clear BK181
    clear BK187
    clear HB
    have BK181 := n0_
    have BK187 := n1_
    have HB := n2_
    clear n0_ n1_ n2_
    (try clear hb)
    (try clear hb2)
    (try clear hk)
    (try clear hi)
    refine hK.out _ _ ⟨(blk_cell BK187.out 0).trans rfl, (blk_cell BK187.out 1).trans rfl, (blk_cell BK187.out 2).trans rfl, (blk_cell BK187.out 3).trans rfl, (blk_cell BK181.out 0).trans rfl, (blk_cell BK181.out 1).trans rfl, (blk_cell BK181.out 2).trans rfl, (blk_cell BK181.out 3).trans rfl⟩ (fun hHeld => ?_)
    clear hK K
    refine norm_ (a' := ?_) ?_ ?_
    rotate_left
    · show Act.put _ (some 26) _ = _
      simp only [Act.put, List.setIfInBounds_toArray, List.set_cons_zero, List.set_cons_succ, i64_w, i32_w]
      rfl
    refine pure_ (i := 6) (N := some 27) (v := ?_) (a' := ?_) #[true, true, true, true, true, true, true, true, true, false, false, true, false, false] rfl rfl (any_of HT_.out (by kernel_rfl)) (fun _ _ _ h => h) (Or.inl ⟨by rfl, ?_⟩) ?_ ?_
    rotate_left
    · intro w'
      go_simp
      with_reducible rfl
    rotate_left
    · simp only [Act.put, List.setIfInBounds_toArray, List.set_cons_zero, List.set_cons_succ, i64_w, i32_w]
      rfl
    refine pure_ (i := 9) (N := some 30) (v := ?_) (a' := ?_) #[true, true, true, true, true, true, true, true, true, true, false, true, false, false] rfl rfl (any_of HT_.out (by kernel_rfl)) (fun _ _ _ h => h) (Or.inl ⟨by rfl, ?_⟩) ?_ ?_
    rotate_left
    · intro w'
      go_simp
      with_reducible rfl
    rotate_left
    · simp only [Act.put, List.setIfInBounds_toArray, List.set_cons_zero, List.set_cons_succ, i64_w, i32_w]
      rfl
    refine pure_ (i := 10) (N := some 31) (v := ?_) (a' := ?_) #[true, true, true, true, true, true, true, true, true, true, true, true, false, false] rfl rfl (any_of HT_.out (by kernel_rfl)) (fun _ _ _ h => h) (Or.inl ⟨by rfl, ?_⟩) ?_ ?_
    rotate_left
    · intro w'
      go_simp
      with_reducible rfl
    rotate_left
    · simp only [Act.put, List.setIfInBounds_toArray, List.set_cons_zero, List.set_cons_succ, i64_w, i32_w]
      rfl
    refine pure_ (i := 12) (N := some 2) (v := ?_) (a' := ?_) #[true, true, true, true, true, true, true, true, true, true, true, true, true, false] rfl rfl (any_of HT_.out (by kernel_rfl)) (fun _ _ _ h => h) (Or.inl ⟨by rfl, ?_⟩) ?_ ?_
    rotate_left
    · intro w'
      go_simp
      with_reducible rfl
    rotate_left
    · simp only [Act.put, List.setIfInBounds_toArray, List.set_cons_zero, List.set_cons_succ, i64_w, i32_w]
      rfl
    refine pure_ (i := 13) (N := some 3) (v := ?_) (a' := ?_) #[true, true, true, true, true, true, true, true, true, true, true, true, true, true] rfl rfl (any_of HT_.out (by kernel_rfl)) (fun _ _ _ h => h) (Or.inl ⟨by rfl, ?_⟩) ?_ ?_
    rotate_left
    · intro w'
      go_simp
      with_reducible rfl
    rotate_left
    · simp only [Act.put, List.setIfInBounds_toArray, List.set_cons_zero, List.set_cons_succ, i64_w, i32_w]
      rfl
    refine done_ (done_of HT_.out (by kernel_rfl)) ?_
    try go_wp2
    go_ret2
    exact ⟨by first | rfl | (simp [errW_none, errW_some] <;> rfl) | (simp [*, errW_none, errW_some] <;> rfl), by repeat (first | (with_reducible first | exact HB.out | apply below_alloc | apply pw_below_drewN | apply below_drew1 | refine below_set ?_ GE181.out | refine below_set ?_ GE187.out) | exact HB.out)⟩
  · rw [if_neg c3] at H
    have c3b0 : (t186 == 0) = false := beq_eq_false_iff_ne.mpr c3
    have c3b1 : (t186 != 0) = true := bne_iff_ne.mpr c3
    simp only [Option.some.injEq, Prod.mk.injEq] at H
    obtain ⟨rfl, rfl⟩ := H
    go_enter Tryd.func52, Tryd.ntmps52
    go_wp2_with (first | ((with_reducible refine gate_dst (N := 1) rfl ?_); refine box_event ?hg (N := 1) ?hd (cs := #[.int .i64 a0_0, .int .i64 a0_1, .bool a0_2, .int .i64 a0_3]) (t := 77) ?hr ?_; (case hd => rfl); (case hg => rfl); (case hr => first | (go_simp; done) | (go_simp; rfl)); intro gb181 hg w16 hbox hb; have n0_ := Aside0.mk (below_step (by repeat (first | (with_reducible first | exact HB.out | apply below_alloc | apply pw_below_drewN | apply below_drew1) | exact HB.out)) hb); have n1_ := Aside0.mk (hbox); have n2_ := Aside0.mk ((by rw [hg]; exact (below_size (by repeat (first | (with_reducible first | exact HB.out | apply below_alloc | apply pw_below_drewN | apply below_drew1) | exact HB.out))) : w.heap.size ≤ gb181)); have n3_ := Aside0.mk ((by rw [hg]; exact (below_size (by repeat (first | (with_reducible first | exact HB.out | apply below_alloc | apply pw_below_drewN | apply below_drew1) | exact HB.out))) : w.heap.size ≤ gb181)); clear HB; have HB := n0_; have BK181 := n1_; have GW181 := n2_; have GE181 := n3_; clear n0_ n1_ n2_ n3_; clear hb hbox hg; have hcz17_0 : w16.cell? ⟨gb181, 0, none⟩ = some (.int .i64 a0_0) := (blk_cell BK181.out 0).trans rfl; have hcz17_1 : w16.cell? ⟨gb181, 1, none⟩ = some (.int .i64 a0_1) := (blk_cell BK181.out 1).trans rfl; have hcz17_2 : w16.cell? ⟨gb181, 2, none⟩ = some (.bool a0_2) := (blk_cell BK181.out 2).trans rfl; have hcz17_3 : w16.cell? ⟨gb181, 3, none⟩ = some (.int .i64 a0_3) := (blk_cell BK181.out 3).trans rfl; have hfz17_0 := blk_frozen BK181.out 0; have hfz17_1 := blk_frozen BK181.out 1; have hfz17_2 := blk_frozen BK181.out 2; have hfz17_3 := blk_frozen BK181.out 3) | ((with_reducible refine gate_callee (f := 84) rfl ?_); refine goesL_ (some 9) rfl rfl Tryd.func84 (by kernel_rfl) rfl #[.agg #[.int .i64 a0_0, .int .i64 a0_1, .bool a0_2, .int .i64 a0_3]] rfl (by (try simp only [List.map_toArray, List.map_cons, List.map_nil]); first | done | rfl | (simp only [List.length_drop, List.length_take]; rfl)) ?_; (with_reducible refine (heb_look.calls k a0_0 a0_1 a0_2 a0_3 t182 t183 t184 t185 t186 _ ?side1 A2.out).mono ?_); (case side1 => exact GlobT.below HGT (by repeat (first | (with_reducible first | exact HB.out | apply below_alloc | apply pw_below_drewN | apply below_drew1 | refine below_set ?_ GE181.out) | exact HB.out))); rintro e w18 ⟨rfl, hb⟩; refine ⟨_, rfl, ?_⟩; have n0_ := Aside0.mk (blk_below (g := gb181) (o := .cells #[.int .i64 a0_0, .int .i64 a0_1, .bool a0_2, .int .i64 a0_3] 77 (0, 0)) (by (with_reducible repeat (first | refine blk_drewN ?_ _ | refine blk_drew ?_ | refine blk_alloc ?_ _)); exact BK181.out) hb); have n1_ := Aside0.mk (below_step (by repeat (first | (with_reducible first | exact HB.out | apply below_alloc | apply pw_below_drewN | apply below_drew1 | refine below_set ?_ GE181.out) | exact HB.out)) hb); clear BK181; clear HB; have BK181 := n0_; have HB := n1_; clear n0_ n1_; (try clear hb); (try clear hb2); (try clear hk); (try clear hi)) | ((with_reducible refine gate_dst (N := 4) rfl ?_); refine box_event ?hg (N := 4) ?hd (cs := #[.int .i64 0, .int .i64 0, .bool false, .int .i64 0]) (t := 113) ?hr ?_; (case hd => rfl); (case hg => rfl); (case hr => first | (go_simp; done) | (go_simp; rfl)); intro gb187 hg w19 hbox hb; have n0_ := Aside0.mk (blk_below (g := gb181) (o := .cells #[.int .i64 a0_0, .int .i64 a0_1, .bool a0_2, .int .i64 a0_3] 77 (0, 0)) (by (with_reducible repeat (first | refine blk_drewN ?_ _ | refine blk_drew ?_ | refine blk_alloc ?_ _)); exact BK181.out) hb); have n1_ := Aside0.mk (below_step (by repeat (first | (with_reducible first | exact HB.out | apply below_alloc | apply pw_below_drewN | apply below_drew1 | refine below_set ?_ GE181.out) | exact HB.out)) hb); have n2_ := Aside0.mk (hbox); have n3_ := Aside0.mk ((by rw [hg]; exact (below_size (by repeat (first | (with_reducible first | exact HB.out | apply below_alloc | apply pw_below_drewN | apply below_drew1 | refine below_set ?_ GE181.out) | exact HB.out))) : w.heap.size ≤ gb187)); have n4_ := Aside0.mk ((by rw [hg]; exact (below_size (by repeat (first | (with_reducible first | exact HB.out | apply below_alloc | apply pw_below_drewN | apply below_drew1 | refine below_set ?_ GE181.out) | exact HB.out))) : w.heap.size ≤ gb187)); have n5_ := Aside0.mk ((by rw [hg]; exact Nat.ne_of_lt (blk_lt (g := gb181) (o := .cells #[.int .i64 a0_0, .int .i64 a0_1, .bool a0_2, .int .i64 a0_3] 77 (0, 0)) (by (with_reducible repeat (first | refine blk_drewN ?_ _ | refine blk_drew ?_ | refine blk_alloc ?_ _)); exact BK181.out)) : gb181 ≠ gb187)); have n6_ := Aside0.mk ((by rw [hg]; exact Nat.ne_of_gt (blk_lt (g := gb181) (o := .cells #[.int .i64 a0_0, .int .i64 a0_1, .bool a0_2, .int .i64 a0_3] 77 (0, 0)) (by (with_reducible repeat (first | refine blk_drewN ?_ _ | refine blk_drew ?_ | refine blk_alloc ?_ _)); exact BK181.out)) : gb187 ≠ gb181)); clear BK181; clear HB; have BK181 := n0_; have HB := n1_; have BK187 := n2_; have GW187 := n3_; have GE187 := n4_; have NB181_187 := n5_; have NB187_181 := n6_; clear n0_ n1_ n2_ n3_ n4_ n5_ n6_; clear hb hbox hg; have hnb20 := NB187_181.out; have hnc20 := NB181_187.out; have hcz21_0 : w19.cell? ⟨gb187, 0, none⟩ = some (.int .i64 0) := (blk_cell BK187.out 0).trans rfl; have hcz21_1 : w19.cell? ⟨gb187, 1, none⟩ = some (.int .i64 0) := (blk_cell BK187.out 1).trans rfl; have hcz21_2 : w19.cell? ⟨gb187, 2, none⟩ = some (.bool false) := (blk_cell BK187.out 2).trans rfl; have hcz21_3 : w19.cell? ⟨gb187, 3, none⟩ = some (.int .i64 0) := (blk_cell BK187.out 3).trans rfl; have hfz21_0 := blk_frozen BK187.out 0; have hfz21_1 := blk_frozen BK187.out 1; have hfz21_2 := blk_frozen BK187.out 2; have hfz21_3 := blk_frozen BK187.out 3))
    go_ret2
    exact ⟨by first | rfl | (simp [errW_none, errW_some] <;> rfl) | (simp [*, errW_none, errW_some] <;> rfl), by repeat (first | (with_reducible first | exact HB.out | apply below_alloc | apply pw_below_drewN | apply below_drew1 | refine below_set ?_ GE181.out | refine below_set ?_ GE187.out) | exact HB.out)⟩

def feast_rows_1.f (a0 : Int) : Option (Int × Bool) := some (a0, false)
theorem feast_rows_1.calls (a0 : Int) (r1 : Int) (r2 : Bool) (w : World) (h : feast_rows_1.f a0 = some (r1, r2)) :
    Calls Tryd.prog 88 #[.int .i64 a0] w fun e w' => e = .returned (.agg #[.int .i64 r1, .bool r2]) ∧ Below w.heap.size w w' := by
  obtain ⟨rfl, rfl⟩ : a0 = r1 ∧ false = r2 := by simpa [feast_rows_1.f] using h
  clear h
  go_enter Tryd.func88, Tryd.ntmps88
  go_wp2_with fail
  refine bodyPost_ret (results_single rfl (Vals.cell w.heap.size 23 #[.int .i64 a0, .bool false] (0, 0) _ rfl (blk_new _ _) Tryd.underlying23 rfl (by kernel_rfl) Vals.nil)) rfl ?_
  exact ⟨rfl, below_alloc (Below.refl _ _) _⟩

def feast_rows.f  : Option ((List (S84))) := (feast_rows_1.f 1).bind fun bt191 => ((feast_rows_1.f 1).bind fun bt193 => ((feast_rows_1.f 1).bind fun bt195 => ((feast_rows_1.f 1).bind fun bt197 => ((feast_rows_1.f 1).bind fun bt199 => ((feast_rows_1.f 1).bind fun bt201 => ((feast_rows_1.f 1).bind fun bt203 => ((feast_rows_1.f 3).bind fun bt205 => ((feast_rows_1.f 5).bind fun bt207 => ((feast_rows_1.f 6).bind fun bt209 => ((feast_rows_1.f 6).bind fun bt211 => ((feast_rows_1.f 7).bind fun bt213 => ((feast_rows_1.f 7).bind fun bt215 => ((feast_rows_1.f 7).bind fun bt217 => ((feast_rows_1.f 8).bind fun bt219 => ((feast_rows_1.f 8).bind fun bt221 => ((feast_rows_1.f 9).bind fun bt223 => ((feast_rows_1.f 11).bind fun bt225 => (some (([(⟨1, (⟨bt191.1, bt191.2⟩ : S23), 1, 2, 1, 2⟩ : S84), (⟨3, (⟨bt193.1, bt193.2⟩ : S23), 10, 10, 10, 10⟩ : S84), (⟨4, (⟨bt195.1, bt195.2⟩ : S23), 15, 16, 15, 15⟩ : S84), (⟨5, (⟨bt197.1, bt197.2⟩ : S23), 17, 20, 16, 20⟩ : S84), (⟨6, (⟨bt199.1, bt199.2⟩ : S23), 21, 21, 21, 21⟩ : S84), (⟨7, (⟨bt201.1, bt201.2⟩ : S23), 22, 22, 22, 22⟩ : S84), (⟨8, (⟨bt203.1, bt203.2⟩ : S23), 23, 23, 22, 22⟩ : S84), (⟨9, (⟨bt205.1, bt205.2⟩ : S23), 25, 32, 25, 32⟩ : S84), (⟨11, (⟨bt207.1, bt207.2⟩ : S23), 15, 15, 15, 15⟩ : S84), (⟨12, (⟨5, true⟩ : S23), 14, 14, 14, 14⟩ : S84), (⟨14, (⟨bt209.1, bt209.2⟩ : S23), 14, 14, 14, 14⟩ : S84), (⟨15, (⟨bt211.1, bt211.2⟩ : S23), 15, 15, 15, 15⟩ : S84), (⟨17, (⟨bt213.1, bt213.2⟩ : S23), 15, 16, 15, 15⟩ : S84), (⟨18, (⟨bt215.1, bt215.2⟩ : S23), 17, 20, 16, 20⟩ : S84), (⟨17, (⟨bt217.1, bt217.2⟩ : S23), 21, 22, 21, 21⟩ : S84), (⟨22, (⟨bt219.1, bt219.2⟩ : S23), 14, 14, 14, 14⟩ : S84), (⟨23, (⟨bt221.1, bt221.2⟩ : S23), 18, 18, 18, 18⟩ : S84), (⟨25, (⟨bt223.1, bt223.2⟩ : S23), 6, 7, 6, 6⟩ : S84), (⟨28, (⟨bt225.1, bt225.2⟩ : S23), 15, 15, 15, 15⟩ : S84)] : List (S84)))))))))))))))))))))
set_option maxHeartbeats 8000000 in
set_option maxRecDepth 100000 in
theorem feast_rows.calls  (r : List (S84)) (w : World) (h : feast_rows.f  = some r) :
    Calls Tryd.prog 57 #[] w fun e w' => ∃ v0_ : Value, e = .returned (v0_) ∧ Kd.R k84 84 w' w.heap.size (fun _ => True) v0_ r ∧ Below w.heap.size w w' := by
  have hu84 := Tryd.underlying84
  have hu23 := Tryd.underlying23
  have HB := Aside0.mk (Below.refl w.heap.size w)
  have H : ((feast_rows_1.f 1).bind fun bt191 => ((feast_rows_1.f 1).bind fun bt193 => ((feast_rows_1.f 1).bind fun bt195 => ((feast_rows_1.f 1).bind fun bt197 => ((feast_rows_1.f 1).bind fun bt199 => ((feast_rows_1.f 1).bind fun bt201 => ((feast_rows_1.f 1).bind fun bt203 => ((feast_rows_1.f 3).bind fun bt205 => ((feast_rows_1.f 5).bind fun bt207 => ((feast_rows_1.f 6).bind fun bt209 => ((feast_rows_1.f 6).bind fun bt211 => ((feast_rows_1.f 7).bind fun bt213 => ((feast_rows_1.f 7).bind fun bt215 => ((feast_rows_1.f 7).bind fun bt217 => ((feast_rows_1.f 8).bind fun bt219 => ((feast_rows_1.f 8).bind fun bt221 => ((feast_rows_1.f 9).bind fun bt223 => ((feast_rows_1.f 11).bind fun bt225 => (some (([(⟨1, (⟨bt191.1, bt191.2⟩ : S23), 1, 2, 1, 2⟩ : S84), (⟨3, (⟨bt193.1, bt193.2⟩ : S23), 10, 10, 10, 10⟩ : S84), (⟨4, (⟨bt195.1, bt195.2⟩ : S23), 15, 16, 15, 15⟩ : S84), (⟨5, (⟨bt197.1, bt197.2⟩ : S23), 17, 20, 16, 20⟩ : S84), (⟨6, (⟨bt199.1, bt199.2⟩ : S23), 21, 21, 21, 21⟩ : S84), (⟨7, (⟨bt201.1, bt201.2⟩ : S23), 22, 22, 22, 22⟩ : S84), (⟨8, (⟨bt203.1, bt203.2⟩ : S23), 23, 23, 22, 22⟩ : S84), (⟨9, (⟨bt205.1, bt205.2⟩ : S23), 25, 32, 25, 32⟩ : S84), (⟨11, (⟨bt207.1, bt207.2⟩ : S23), 15, 15, 15, 15⟩ : S84), (⟨12, (⟨5, true⟩ : S23), 14, 14, 14, 14⟩ : S84), (⟨14, (⟨bt209.1, bt209.2⟩ : S23), 14, 14, 14, 14⟩ : S84), (⟨15, (⟨bt211.1, bt211.2⟩ : S23), 15, 15, 15, 15⟩ : S84), (⟨17, (⟨bt213.1, bt213.2⟩ : S23), 15, 16, 15, 15⟩ : S84), (⟨18, (⟨bt215.1, bt215.2⟩ : S23), 17, 20, 16, 20⟩ : S84), (⟨17, (⟨bt217.1, bt217.2⟩ : S23), 21, 22, 21, 21⟩ : S84), (⟨22, (⟨bt219.1, bt219.2⟩ : S23), 14, 14, 14, 14⟩ : S84), (⟨23, (⟨bt221.1, bt221.2⟩ : S23), 18, 18, 18, 18⟩ : S84), (⟨25, (⟨bt223.1, bt223.2⟩ : S23), 6, 7, 6, 6⟩ : S84), (⟨28, (⟨bt225.1, bt225.2⟩ : S23), 15, 15, 15, 15⟩ : S84)] : List (S84)))))))))))))))))))))) = some r := h
  clear h
  replace H := Option.bind_eq_some_iff.mp H
  obtain ⟨⟨t191, t192⟩, A10, H⟩ := H
  replace H : ((feast_rows_1.f 1).bind fun bt193 => ((feast_rows_1.f 1).bind fun bt195 => ((feast_rows_1.f 1).bind fun bt197 => ((feast_rows_1.f 1).bind fun bt199 => ((feast_rows_1.f 1).bind fun bt201 => ((feast_rows_1.f 1).bind fun bt203 => ((feast_rows_1.f 3).bind fun bt205 => ((feast_rows_1.f 5).bind fun bt207 => ((feast_rows_1.f 6).bind fun bt209 => ((feast_rows_1.f 6).bind fun bt211 => ((feast_rows_1.f 7).bind fun bt213 => ((feast_rows_1.f 7).bind fun bt215 => ((feast_rows_1.f 7).bind fun bt217 => ((feast_rows_1.f 8).bind fun bt219 => ((feast_rows_1.f 8).bind fun bt221 => ((feast_rows_1.f 9).bind fun bt223 => ((feast_rows_1.f 11).bind fun bt225 => (some (([(⟨1, (⟨t191, t192⟩ : S23), 1, 2, 1, 2⟩ : S84), (⟨3, (⟨bt193.1, bt193.2⟩ : S23), 10, 10, 10, 10⟩ : S84), (⟨4, (⟨bt195.1, bt195.2⟩ : S23), 15, 16, 15, 15⟩ : S84), (⟨5, (⟨bt197.1, bt197.2⟩ : S23), 17, 20, 16, 20⟩ : S84), (⟨6, (⟨bt199.1, bt199.2⟩ : S23), 21, 21, 21, 21⟩ : S84), (⟨7, (⟨bt201.1, bt201.2⟩ : S23), 22, 22, 22, 22⟩ : S84), (⟨8, (⟨bt203.1, bt203.2⟩ : S23), 23, 23, 22, 22⟩ : S84), (⟨9, (⟨bt205.1, bt205.2⟩ : S23), 25, 32, 25, 32⟩ : S84), (⟨11, (⟨bt207.1, bt207.2⟩ : S23), 15, 15, 15, 15⟩ : S84), (⟨12, (⟨5, true⟩ : S23), 14, 14, 14, 14⟩ : S84), (⟨14, (⟨bt209.1, bt209.2⟩ : S23), 14, 14, 14, 14⟩ : S84), (⟨15, (⟨bt211.1, bt211.2⟩ : S23), 15, 15, 15, 15⟩ : S84), (⟨17, (⟨bt213.1, bt213.2⟩ : S23), 15, 16, 15, 15⟩ : S84), (⟨18, (⟨bt215.1, bt215.2⟩ : S23), 17, 20, 16, 20⟩ : S84), (⟨17, (⟨bt217.1, bt217.2⟩ : S23), 21, 22, 21, 21⟩ : S84), (⟨22, (⟨bt219.1, bt219.2⟩ : S23), 14, 14, 14, 14⟩ : S84), (⟨23, (⟨bt221.1, bt221.2⟩ : S23), 18, 18, 18, 18⟩ : S84), (⟨25, (⟨bt223.1, bt223.2⟩ : S23), 6, 7, 6, 6⟩ : S84), (⟨28, (⟨bt225.1, bt225.2⟩ : S23), 15, 15, 15, 15⟩ : S84)] : List (S84))))))))))))))))))))) = some r := H
  have A1 := Aside0.mk A10
  clear A10
  replace H := Option.bind_eq_some_iff.mp H
  obtain ⟨⟨t193, t194⟩, A20, H⟩ := H
  replace H : ((feast_rows_1.f 1).bind fun bt195 => ((feast_rows_1.f 1).bind fun bt197 => ((feast_rows_1.f 1).bind fun bt199 => ((feast_rows_1.f 1).bind fun bt201 => ((feast_rows_1.f 1).bind fun bt203 => ((feast_rows_1.f 3).bind fun bt205 => ((feast_rows_1.f 5).bind fun bt207 => ((feast_rows_1.f 6).bind fun bt209 => ((feast_rows_1.f 6).bind fun bt211 => ((feast_rows_1.f 7).bind fun bt213 => ((feast_rows_1.f 7).bind fun bt215 => ((feast_rows_1.f 7).bind fun bt217 => ((feast_rows_1.f 8).bind fun bt219 => ((feast_rows_1.f 8).bind fun bt221 => ((feast_rows_1.f 9).bind fun bt223 => ((feast_rows_1.f 11).bind fun bt225 => (some (([(⟨1, (⟨t191, t192⟩ : S23), 1, 2, 1, 2⟩ : S84), (⟨3, (⟨t193, t194⟩ : S23), 10, 10, 10, 10⟩ : S84), (⟨4, (⟨bt195.1, bt195.2⟩ : S23), 15, 16, 15, 15⟩ : S84), (⟨5, (⟨bt197.1, bt197.2⟩ : S23), 17, 20, 16, 20⟩ : S84), (⟨6, (⟨bt199.1, bt199.2⟩ : S23), 21, 21, 21, 21⟩ : S84), (⟨7, (⟨bt201.1, bt201.2⟩ : S23), 22, 22, 22, 22⟩ : S84), (⟨8, (⟨bt203.1, bt203.2⟩ : S23), 23, 23, 22, 22⟩ : S84), (⟨9, (⟨bt205.1, bt205.2⟩ : S23), 25, 32, 25, 32⟩ : S84), (⟨11, (⟨bt207.1, bt207.2⟩ : S23), 15, 15, 15, 15⟩ : S84), (⟨12, (⟨5, true⟩ : S23), 14, 14, 14, 14⟩ : S84), (⟨14, (⟨bt209.1, bt209.2⟩ : S23), 14, 14, 14, 14⟩ : S84), (⟨15, (⟨bt211.1, bt211.2⟩ : S23), 15, 15, 15, 15⟩ : S84), (⟨17, (⟨bt213.1, bt213.2⟩ : S23), 15, 16, 15, 15⟩ : S84), (⟨18, (⟨bt215.1, bt215.2⟩ : S23), 17, 20, 16, 20⟩ : S84), (⟨17, (⟨bt217.1, bt217.2⟩ : S23), 21, 22, 21, 21⟩ : S84), (⟨22, (⟨bt219.1, bt219.2⟩ : S23), 14, 14, 14, 14⟩ : S84), (⟨23, (⟨bt221.1, bt221.2⟩ : S23), 18, 18, 18, 18⟩ : S84), (⟨25, (⟨bt223.1, bt223.2⟩ : S23), 6, 7, 6, 6⟩ : S84), (⟨28, (⟨bt225.1, bt225.2⟩ : S23), 15, 15, 15, 15⟩ : S84)] : List (S84)))))))))))))))))))) = some r := H
  have A2 := Aside0.mk A20
  clear A20
  replace H := Option.bind_eq_some_iff.mp H
  obtain ⟨⟨t195, t196⟩, A30, H⟩ := H
  replace H : ((feast_rows_1.f 1).bind fun bt197 => ((feast_rows_1.f 1).bind fun bt199 => ((feast_rows_1.f 1).bind fun bt201 => ((feast_rows_1.f 1).bind fun bt203 => ((feast_rows_1.f 3).bind fun bt205 => ((feast_rows_1.f 5).bind fun bt207 => ((feast_rows_1.f 6).bind fun bt209 => ((feast_rows_1.f 6).bind fun bt211 => ((feast_rows_1.f 7).bind fun bt213 => ((feast_rows_1.f 7).bind fun bt215 => ((feast_rows_1.f 7).bind fun bt217 => ((feast_rows_1.f 8).bind fun bt219 => ((feast_rows_1.f 8).bind fun bt221 => ((feast_rows_1.f 9).bind fun bt223 => ((feast_rows_1.f 11).bind fun bt225 => (some (([(⟨1, (⟨t191, t192⟩ : S23), 1, 2, 1, 2⟩ : S84), (⟨3, (⟨t193, t194⟩ : S23), 10, 10, 10, 10⟩ : S84), (⟨4, (⟨t195, t196⟩ : S23), 15, 16, 15, 15⟩ : S84), (⟨5, (⟨bt197.1, bt197.2⟩ : S23), 17, 20, 16, 20⟩ : S84), (⟨6, (⟨bt199.1, bt199.2⟩ : S23), 21, 21, 21, 21⟩ : S84), (⟨7, (⟨bt201.1, bt201.2⟩ : S23), 22, 22, 22, 22⟩ : S84), (⟨8, (⟨bt203.1, bt203.2⟩ : S23), 23, 23, 22, 22⟩ : S84), (⟨9, (⟨bt205.1, bt205.2⟩ : S23), 25, 32, 25, 32⟩ : S84), (⟨11, (⟨bt207.1, bt207.2⟩ : S23), 15, 15, 15, 15⟩ : S84), (⟨12, (⟨5, true⟩ : S23), 14, 14, 14, 14⟩ : S84), (⟨14, (⟨bt209.1, bt209.2⟩ : S23), 14, 14, 14, 14⟩ : S84), (⟨15, (⟨bt211.1, bt211.2⟩ : S23), 15, 15, 15, 15⟩ : S84), (⟨17, (⟨bt213.1, bt213.2⟩ : S23), 15, 16, 15, 15⟩ : S84), (⟨18, (⟨bt215.1, bt215.2⟩ : S23), 17, 20, 16, 20⟩ : S84), (⟨17, (⟨bt217.1, bt217.2⟩ : S23), 21, 22, 21, 21⟩ : S84), (⟨22, (⟨bt219.1, bt219.2⟩ : S23), 14, 14, 14, 14⟩ : S84), (⟨23, (⟨bt221.1, bt221.2⟩ : S23), 18, 18, 18, 18⟩ : S84), (⟨25, (⟨bt223.1, bt223.2⟩ : S23), 6, 7, 6, 6⟩ : S84), (⟨28, (⟨bt225.1, bt225.2⟩ : S23), 15, 15, 15, 15⟩ : S84)] : List (S84))))))))))))))))))) = some r := H
  have A3 := Aside0.mk A30
  clear A30
  replace H := Option.bind_eq_some_iff.mp H
  obtain ⟨⟨t197, t198⟩, A40, H⟩ := H
  replace H : ((feast_rows_1.f 1).bind fun bt199 => ((feast_rows_1.f 1).bind fun bt201 => ((feast_rows_1.f 1).bind fun bt203 => ((feast_rows_1.f 3).bind fun bt205 => ((feast_rows_1.f 5).bind fun bt207 => ((feast_rows_1.f 6).bind fun bt209 => ((feast_rows_1.f 6).bind fun bt211 => ((feast_rows_1.f 7).bind fun bt213 => ((feast_rows_1.f 7).bind fun bt215 => ((feast_rows_1.f 7).bind fun bt217 => ((feast_rows_1.f 8).bind fun bt219 => ((feast_rows_1.f 8).bind fun bt221 => ((feast_rows_1.f 9).bind fun bt223 => ((feast_rows_1.f 11).bind fun bt225 => (some (([(⟨1, (⟨t191, t192⟩ : S23), 1, 2, 1, 2⟩ : S84), (⟨3, (⟨t193, t194⟩ : S23), 10, 10, 10, 10⟩ : S84), (⟨4, (⟨t195, t196⟩ : S23), 15, 16, 15, 15⟩ : S84), (⟨5, (⟨t197, t198⟩ : S23), 17, 20, 16, 20⟩ : S84), (⟨6, (⟨bt199.1, bt199.2⟩ : S23), 21, 21, 21, 21⟩ : S84), (⟨7, (⟨bt201.1, bt201.2⟩ : S23), 22, 22, 22, 22⟩ : S84), (⟨8, (⟨bt203.1, bt203.2⟩ : S23), 23, 23, 22, 22⟩ : S84), (⟨9, (⟨bt205.1, bt205.2⟩ : S23), 25, 32, 25, 32⟩ : S84), (⟨11, (⟨bt207.1, bt207.2⟩ : S23), 15, 15, 15, 15⟩ : S84), (⟨12, (⟨5, true⟩ : S23), 14, 14, 14, 14⟩ : S84), (⟨14, (⟨bt209.1, bt209.2⟩ : S23), 14, 14, 14, 14⟩ : S84), (⟨15, (⟨bt211.1, bt211.2⟩ : S23), 15, 15, 15, 15⟩ : S84), (⟨17, (⟨bt213.1, bt213.2⟩ : S23), 15, 16, 15, 15⟩ : S84), (⟨18, (⟨bt215.1, bt215.2⟩ : S23), 17, 20, 16, 20⟩ : S84), (⟨17, (⟨bt217.1, bt217.2⟩ : S23), 21, 22, 21, 21⟩ : S84), (⟨22, (⟨bt219.1, bt219.2⟩ : S23), 14, 14, 14, 14⟩ : S84), (⟨23, (⟨bt221.1, bt221.2⟩ : S23), 18, 18, 18, 18⟩ : S84), (⟨25, (⟨bt223.1, bt223.2⟩ : S23), 6, 7, 6, 6⟩ : S84), (⟨28, (⟨bt225.1, bt225.2⟩ : S23), 15, 15, 15, 15⟩ : S84)] : List (S84)))))))))))))))))) = some r := H
  have A4 := Aside0.mk A40
  clear A40
  replace H := Option.bind_eq_some_iff.mp H
  obtain ⟨⟨t199, t200⟩, A50, H⟩ := H
  replace H : ((feast_rows_1.f 1).bind fun bt201 => ((feast_rows_1.f 1).bind fun bt203 => ((feast_rows_1.f 3).bind fun bt205 => ((feast_rows_1.f 5).bind fun bt207 => ((feast_rows_1.f 6).bind fun bt209 => ((feast_rows_1.f 6).bind fun bt211 => ((feast_rows_1.f 7).bind fun bt213 => ((feast_rows_1.f 7).bind fun bt215 => ((feast_rows_1.f 7).bind fun bt217 => ((feast_rows_1.f 8).bind fun bt219 => ((feast_rows_1.f 8).bind fun bt221 => ((feast_rows_1.f 9).bind fun bt223 => ((feast_rows_1.f 11).bind fun bt225 => (some (([(⟨1, (⟨t191, t192⟩ : S23), 1, 2, 1, 2⟩ : S84), (⟨3, (⟨t193, t194⟩ : S23), 10, 10, 10, 10⟩ : S84), (⟨4, (⟨t195, t196⟩ : S23), 15, 16, 15, 15⟩ : S84), (⟨5, (⟨t197, t198⟩ : S23), 17, 20, 16, 20⟩ : S84), (⟨6, (⟨t199, t200⟩ : S23), 21, 21, 21, 21⟩ : S84), (⟨7, (⟨bt201.1, bt201.2⟩ : S23), 22, 22, 22, 22⟩ : S84), (⟨8, (⟨bt203.1, bt203.2⟩ : S23), 23, 23, 22, 22⟩ : S84), (⟨9, (⟨bt205.1, bt205.2⟩ : S23), 25, 32, 25, 32⟩ : S84), (⟨11, (⟨bt207.1, bt207.2⟩ : S23), 15, 15, 15, 15⟩ : S84), (⟨12, (⟨5, true⟩ : S23), 14, 14, 14, 14⟩ : S84), (⟨14, (⟨bt209.1, bt209.2⟩ : S23), 14, 14, 14, 14⟩ : S84), (⟨15, (⟨bt211.1, bt211.2⟩ : S23), 15, 15, 15, 15⟩ : S84), (⟨17, (⟨bt213.1, bt213.2⟩ : S23), 15, 16, 15, 15⟩ : S84), (⟨18, (⟨bt215.1, bt215.2⟩ : S23), 17, 20, 16, 20⟩ : S84), (⟨17, (⟨bt217.1, bt217.2⟩ : S23), 21, 22, 21, 21⟩ : S84), (⟨22, (⟨bt219.1, bt219.2⟩ : S23), 14, 14, 14, 14⟩ : S84), (⟨23, (⟨bt221.1, bt221.2⟩ : S23), 18, 18, 18, 18⟩ : S84), (⟨25, (⟨bt223.1, bt223.2⟩ : S23), 6, 7, 6, 6⟩ : S84), (⟨28, (⟨bt225.1, bt225.2⟩ : S23), 15, 15, 15, 15⟩ : S84)] : List (S84))))))))))))))))) = some r := H
  have A5 := Aside0.mk A50
  clear A50
  replace H := Option.bind_eq_some_iff.mp H
  obtain ⟨⟨t201, t202⟩, A60, H⟩ := H
  replace H : ((feast_rows_1.f 1).bind fun bt203 => ((feast_rows_1.f 3).bind fun bt205 => ((feast_rows_1.f 5).bind fun bt207 => ((feast_rows_1.f 6).bind fun bt209 => ((feast_rows_1.f 6).bind fun bt211 => ((feast_rows_1.f 7).bind fun bt213 => ((feast_rows_1.f 7).bind fun bt215 => ((feast_rows_1.f 7).bind fun bt217 => ((feast_rows_1.f 8).bind fun bt219 => ((feast_rows_1.f 8).bind fun bt221 => ((feast_rows_1.f 9).bind fun bt223 => ((feast_rows_1.f 11).bind fun bt225 => (some (([(⟨1, (⟨t191, t192⟩ : S23), 1, 2, 1, 2⟩ : S84), (⟨3, (⟨t193, t194⟩ : S23), 10, 10, 10, 10⟩ : S84), (⟨4, (⟨t195, t196⟩ : S23), 15, 16, 15, 15⟩ : S84), (⟨5, (⟨t197, t198⟩ : S23), 17, 20, 16, 20⟩ : S84), (⟨6, (⟨t199, t200⟩ : S23), 21, 21, 21, 21⟩ : S84), (⟨7, (⟨t201, t202⟩ : S23), 22, 22, 22, 22⟩ : S84), (⟨8, (⟨bt203.1, bt203.2⟩ : S23), 23, 23, 22, 22⟩ : S84), (⟨9, (⟨bt205.1, bt205.2⟩ : S23), 25, 32, 25, 32⟩ : S84), (⟨11, (⟨bt207.1, bt207.2⟩ : S23), 15, 15, 15, 15⟩ : S84), (⟨12, (⟨5, true⟩ : S23), 14, 14, 14, 14⟩ : S84), (⟨14, (⟨bt209.1, bt209.2⟩ : S23), 14, 14, 14, 14⟩ : S84), (⟨15, (⟨bt211.1, bt211.2⟩ : S23), 15, 15, 15, 15⟩ : S84), (⟨17, (⟨bt213.1, bt213.2⟩ : S23), 15, 16, 15, 15⟩ : S84), (⟨18, (⟨bt215.1, bt215.2⟩ : S23), 17, 20, 16, 20⟩ : S84), (⟨17, (⟨bt217.1, bt217.2⟩ : S23), 21, 22, 21, 21⟩ : S84), (⟨22, (⟨bt219.1, bt219.2⟩ : S23), 14, 14, 14, 14⟩ : S84), (⟨23, (⟨bt221.1, bt221.2⟩ : S23), 18, 18, 18, 18⟩ : S84), (⟨25, (⟨bt223.1, bt223.2⟩ : S23), 6, 7, 6, 6⟩ : S84), (⟨28, (⟨bt225.1, bt225.2⟩ : S23), 15, 15, 15, 15⟩ : S84)] : List (S84)))))))))))))))) = some r := H
  have A6 := Aside0.mk A60
  clear A60
  replace H := Option.bind_eq_some_iff.mp H
  obtain ⟨⟨t203, t204⟩, A70, H⟩ := H
  replace H : ((feast_rows_1.f 3).bind fun bt205 => ((feast_rows_1.f 5).bind fun bt207 => ((feast_rows_1.f 6).bind fun bt209 => ((feast_rows_1.f 6).bind fun bt211 => ((feast_rows_1.f 7).bind fun bt213 => ((feast_rows_1.f 7).bind fun bt215 => ((feast_rows_1.f 7).bind fun bt217 => ((feast_rows_1.f 8).bind fun bt219 => ((feast_rows_1.f 8).bind fun bt221 => ((feast_rows_1.f 9).bind fun bt223 => ((feast_rows_1.f 11).bind fun bt225 => (some (([(⟨1, (⟨t191, t192⟩ : S23), 1, 2, 1, 2⟩ : S84), (⟨3, (⟨t193, t194⟩ : S23), 10, 10, 10, 10⟩ : S84), (⟨4, (⟨t195, t196⟩ : S23), 15, 16, 15, 15⟩ : S84), (⟨5, (⟨t197, t198⟩ : S23), 17, 20, 16, 20⟩ : S84), (⟨6, (⟨t199, t200⟩ : S23), 21, 21, 21, 21⟩ : S84), (⟨7, (⟨t201, t202⟩ : S23), 22, 22, 22, 22⟩ : S84), (⟨8, (⟨t203, t204⟩ : S23), 23, 23, 22, 22⟩ : S84), (⟨9, (⟨bt205.1, bt205.2⟩ : S23), 25, 32, 25, 32⟩ : S84), (⟨11, (⟨bt207.1, bt207.2⟩ : S23), 15, 15, 15, 15⟩ : S84), (⟨12, (⟨5, true⟩ : S23), 14, 14, 14, 14⟩ : S84), (⟨14, (⟨bt209.1, bt209.2⟩ : S23), 14, 14, 14, 14⟩ : S84), (⟨15, (⟨bt211.1, bt211.2⟩ : S23), 15, 15, 15, 15⟩ : S84), (⟨17, (⟨bt213.1, bt213.2⟩ : S23), 15, 16, 15, 15⟩ : S84), (⟨18, (⟨bt215.1, bt215.2⟩ : S23), 17, 20, 16, 20⟩ : S84), (⟨17, (⟨bt217.1, bt217.2⟩ : S23), 21, 22, 21, 21⟩ : S84), (⟨22, (⟨bt219.1, bt219.2⟩ : S23), 14, 14, 14, 14⟩ : S84), (⟨23, (⟨bt221.1, bt221.2⟩ : S23), 18, 18, 18, 18⟩ : S84), (⟨25, (⟨bt223.1, bt223.2⟩ : S23), 6, 7, 6, 6⟩ : S84), (⟨28, (⟨bt225.1, bt225.2⟩ : S23), 15, 15, 15, 15⟩ : S84)] : List (S84))))))))))))))) = some r := H
  have A7 := Aside0.mk A70
  clear A70
  replace H := Option.bind_eq_some_iff.mp H
  obtain ⟨⟨t205, t206⟩, A80, H⟩ := H
  replace H : ((feast_rows_1.f 5).bind fun bt207 => ((feast_rows_1.f 6).bind fun bt209 => ((feast_rows_1.f 6).bind fun bt211 => ((feast_rows_1.f 7).bind fun bt213 => ((feast_rows_1.f 7).bind fun bt215 => ((feast_rows_1.f 7).bind fun bt217 => ((feast_rows_1.f 8).bind fun bt219 => ((feast_rows_1.f 8).bind fun bt221 => ((feast_rows_1.f 9).bind fun bt223 => ((feast_rows_1.f 11).bind fun bt225 => (some (([(⟨1, (⟨t191, t192⟩ : S23), 1, 2, 1, 2⟩ : S84), (⟨3, (⟨t193, t194⟩ : S23), 10, 10, 10, 10⟩ : S84), (⟨4, (⟨t195, t196⟩ : S23), 15, 16, 15, 15⟩ : S84), (⟨5, (⟨t197, t198⟩ : S23), 17, 20, 16, 20⟩ : S84), (⟨6, (⟨t199, t200⟩ : S23), 21, 21, 21, 21⟩ : S84), (⟨7, (⟨t201, t202⟩ : S23), 22, 22, 22, 22⟩ : S84), (⟨8, (⟨t203, t204⟩ : S23), 23, 23, 22, 22⟩ : S84), (⟨9, (⟨t205, t206⟩ : S23), 25, 32, 25, 32⟩ : S84), (⟨11, (⟨bt207.1, bt207.2⟩ : S23), 15, 15, 15, 15⟩ : S84), (⟨12, (⟨5, true⟩ : S23), 14, 14, 14, 14⟩ : S84), (⟨14, (⟨bt209.1, bt209.2⟩ : S23), 14, 14, 14, 14⟩ : S84), (⟨15, (⟨bt211.1, bt211.2⟩ : S23), 15, 15, 15, 15⟩ : S84), (⟨17, (⟨bt213.1, bt213.2⟩ : S23), 15, 16, 15, 15⟩ : S84), (⟨18, (⟨bt215.1, bt215.2⟩ : S23), 17, 20, 16, 20⟩ : S84), (⟨17, (⟨bt217.1, bt217.2⟩ : S23), 21, 22, 21, 21⟩ : S84), (⟨22, (⟨bt219.1, bt219.2⟩ : S23), 14, 14, 14, 14⟩ : S84), (⟨23, (⟨bt221.1, bt221.2⟩ : S23), 18, 18, 18, 18⟩ : S84), (⟨25, (⟨bt223.1, bt223.2⟩ : S23), 6, 7, 6, 6⟩ : S84), (⟨28, (⟨bt225.1, bt225.2⟩ : S23), 15, 15, 15, 15⟩ : S84)] : List (S84)))))))))))))) = some r := H
  have A8 := Aside0.mk A80
  clear A80
  replace H := Option.bind_eq_some_iff.mp H
  obtain ⟨⟨t207, t208⟩, A90, H⟩ := H
  replace H : ((feast_rows_1.f 6).bind fun bt209 => ((feast_rows_1.f 6).bind fun bt211 => ((feast_rows_1.f 7).bind fun bt213 => ((feast_rows_1.f 7).bind fun bt215 => ((feast_rows_1.f 7).bind fun bt217 => ((feast_rows_1.f 8).bind fun bt219 => ((feast_rows_1.f 8).bind fun bt221 => ((feast_rows_1.f 9).bind fun bt223 => ((feast_rows_1.f 11).bind fun bt225 => (some (([(⟨1, (⟨t191, t192⟩ : S23), 1, 2, 1, 2⟩ : S84), (⟨3, (⟨t193, t194⟩ : S23), 10, 10, 10, 10⟩ : S84), (⟨4, (⟨t195, t196⟩ : S23), 15, 16, 15, 15⟩ : S84), (⟨5, (⟨t197, t198⟩ : S23), 17, 20, 16, 20⟩ : S84), (⟨6, (⟨t199, t200⟩ : S23), 21, 21, 21, 21⟩ : S84), (⟨7, (⟨t201, t202⟩ : S23), 22, 22, 22, 22⟩ : S84), (⟨8, (⟨t203, t204⟩ : S23), 23, 23, 22, 22⟩ : S84), (⟨9, (⟨t205, t206⟩ : S23), 25, 32, 25, 32⟩ : S84), (⟨11, (⟨t207, t208⟩ : S23), 15, 15, 15, 15⟩ : S84), (⟨12, (⟨5, true⟩ : S23), 14, 14, 14, 14⟩ : S84), (⟨14, (⟨bt209.1, bt209.2⟩ : S23), 14, 14, 14, 14⟩ : S84), (⟨15, (⟨bt211.1, bt211.2⟩ : S23), 15, 15, 15, 15⟩ : S84), (⟨17, (⟨bt213.1, bt213.2⟩ : S23), 15, 16, 15, 15⟩ : S84), (⟨18, (⟨bt215.1, bt215.2⟩ : S23), 17, 20, 16, 20⟩ : S84), (⟨17, (⟨bt217.1, bt217.2⟩ : S23), 21, 22, 21, 21⟩ : S84), (⟨22, (⟨bt219.1, bt219.2⟩ : S23), 14, 14, 14, 14⟩ : S84), (⟨23, (⟨bt221.1, bt221.2⟩ : S23), 18, 18, 18, 18⟩ : S84), (⟨25, (⟨bt223.1, bt223.2⟩ : S23), 6, 7, 6, 6⟩ : S84), (⟨28, (⟨bt225.1, bt225.2⟩ : S23), 15, 15, 15, 15⟩ : S84)] : List (S84))))))))))))) = some r := H
  have A9 := Aside0.mk A90
  clear A90
  replace H := Option.bind_eq_some_iff.mp H
  obtain ⟨⟨t209, t210⟩, A100, H⟩ := H
  replace H : ((feast_rows_1.f 6).bind fun bt211 => ((feast_rows_1.f 7).bind fun bt213 => ((feast_rows_1.f 7).bind fun bt215 => ((feast_rows_1.f 7).bind fun bt217 => ((feast_rows_1.f 8).bind fun bt219 => ((feast_rows_1.f 8).bind fun bt221 => ((feast_rows_1.f 9).bind fun bt223 => ((feast_rows_1.f 11).bind fun bt225 => (some (([(⟨1, (⟨t191, t192⟩ : S23), 1, 2, 1, 2⟩ : S84), (⟨3, (⟨t193, t194⟩ : S23), 10, 10, 10, 10⟩ : S84), (⟨4, (⟨t195, t196⟩ : S23), 15, 16, 15, 15⟩ : S84), (⟨5, (⟨t197, t198⟩ : S23), 17, 20, 16, 20⟩ : S84), (⟨6, (⟨t199, t200⟩ : S23), 21, 21, 21, 21⟩ : S84), (⟨7, (⟨t201, t202⟩ : S23), 22, 22, 22, 22⟩ : S84), (⟨8, (⟨t203, t204⟩ : S23), 23, 23, 22, 22⟩ : S84), (⟨9, (⟨t205, t206⟩ : S23), 25, 32, 25, 32⟩ : S84), (⟨11, (⟨t207, t208⟩ : S23), 15, 15, 15, 15⟩ : S84), (⟨12, (⟨5, true⟩ : S23), 14, 14, 14, 14⟩ : S84), (⟨14, (⟨t209, t210⟩ : S23), 14, 14, 14, 14⟩ : S84), (⟨15, (⟨bt211.1, bt211.2⟩ : S23), 15, 15, 15, 15⟩ : S84), (⟨17, (⟨bt213.1, bt213.2⟩ : S23), 15, 16, 15, 15⟩ : S84), (⟨18, (⟨bt215.1, bt215.2⟩ : S23), 17, 20, 16, 20⟩ : S84), (⟨17, (⟨bt217.1, bt217.2⟩ : S23), 21, 22, 21, 21⟩ : S84), (⟨22, (⟨bt219.1, bt219.2⟩ : S23), 14, 14, 14, 14⟩ : S84), (⟨23, (⟨bt221.1, bt221.2⟩ : S23), 18, 18, 18, 18⟩ : S84), (⟨25, (⟨bt223.1, bt223.2⟩ : S23), 6, 7, 6, 6⟩ : S84), (⟨28, (⟨bt225.1, bt225.2⟩ : S23), 15, 15, 15, 15⟩ : S84)] : List (S84)))))))))))) = some r := H
  have A10 := Aside0.mk A100
  clear A100
  replace H := Option.bind_eq_some_iff.mp H
  obtain ⟨⟨t211, t212⟩, A110, H⟩ := H
  replace H : ((feast_rows_1.f 7).bind fun bt213 => ((feast_rows_1.f 7).bind fun bt215 => ((feast_rows_1.f 7).bind fun bt217 => ((feast_rows_1.f 8).bind fun bt219 => ((feast_rows_1.f 8).bind fun bt221 => ((feast_rows_1.f 9).bind fun bt223 => ((feast_rows_1.f 11).bind fun bt225 => (some (([(⟨1, (⟨t191, t192⟩ : S23), 1, 2, 1, 2⟩ : S84), (⟨3, (⟨t193, t194⟩ : S23), 10, 10, 10, 10⟩ : S84), (⟨4, (⟨t195, t196⟩ : S23), 15, 16, 15, 15⟩ : S84), (⟨5, (⟨t197, t198⟩ : S23), 17, 20, 16, 20⟩ : S84), (⟨6, (⟨t199, t200⟩ : S23), 21, 21, 21, 21⟩ : S84), (⟨7, (⟨t201, t202⟩ : S23), 22, 22, 22, 22⟩ : S84), (⟨8, (⟨t203, t204⟩ : S23), 23, 23, 22, 22⟩ : S84), (⟨9, (⟨t205, t206⟩ : S23), 25, 32, 25, 32⟩ : S84), (⟨11, (⟨t207, t208⟩ : S23), 15, 15, 15, 15⟩ : S84), (⟨12, (⟨5, true⟩ : S23), 14, 14, 14, 14⟩ : S84), (⟨14, (⟨t209, t210⟩ : S23), 14, 14, 14, 14⟩ : S84), (⟨15, (⟨t211, t212⟩ : S23), 15, 15, 15, 15⟩ : S84), (⟨17, (⟨bt213.1, bt213.2⟩ : S23), 15, 16, 15, 15⟩ : S84), (⟨18, (⟨bt215.1, bt215.2⟩ : S23), 17, 20, 16, 20⟩ : S84), (⟨17, (⟨bt217.1, bt217.2⟩ : S23), 21, 22, 21, 21⟩ : S84), (⟨22, (⟨bt219.1, bt219.2⟩ : S23), 14, 14, 14, 14⟩ : S84), (⟨23, (⟨bt221.1, bt221.2⟩ : S23), 18, 18, 18, 18⟩ : S84), (⟨25, (⟨bt223.1, bt223.2⟩ : S23), 6, 7, 6, 6⟩ : S84), (⟨28, (⟨bt225.1, bt225.2⟩ : S23), 15, 15, 15, 15⟩ : S84)] : List (S84))))))))))) = some r := H
  have A11 := Aside0.mk A110
  clear A110
  replace H := Option.bind_eq_some_iff.mp H
  obtain ⟨⟨t213, t214⟩, A120, H⟩ := H
  replace H : ((feast_rows_1.f 7).bind fun bt215 => ((feast_rows_1.f 7).bind fun bt217 => ((feast_rows_1.f 8).bind fun bt219 => ((feast_rows_1.f 8).bind fun bt221 => ((feast_rows_1.f 9).bind fun bt223 => ((feast_rows_1.f 11).bind fun bt225 => (some (([(⟨1, (⟨t191, t192⟩ : S23), 1, 2, 1, 2⟩ : S84), (⟨3, (⟨t193, t194⟩ : S23), 10, 10, 10, 10⟩ : S84), (⟨4, (⟨t195, t196⟩ : S23), 15, 16, 15, 15⟩ : S84), (⟨5, (⟨t197, t198⟩ : S23), 17, 20, 16, 20⟩ : S84), (⟨6, (⟨t199, t200⟩ : S23), 21, 21, 21, 21⟩ : S84), (⟨7, (⟨t201, t202⟩ : S23), 22, 22, 22, 22⟩ : S84), (⟨8, (⟨t203, t204⟩ : S23), 23, 23, 22, 22⟩ : S84), (⟨9, (⟨t205, t206⟩ : S23), 25, 32, 25, 32⟩ : S84), (⟨11, (⟨t207, t208⟩ : S23), 15, 15, 15, 15⟩ : S84), (⟨12, (⟨5, true⟩ : S23), 14, 14, 14, 14⟩ : S84), (⟨14, (⟨t209, t210⟩ : S23), 14, 14, 14, 14⟩ : S84), (⟨15, (⟨t211, t212⟩ : S23), 15, 15, 15, 15⟩ : S84), (⟨17, (⟨t213, t214⟩ : S23), 15, 16, 15, 15⟩ : S84), (⟨18, (⟨bt215.1, bt215.2⟩ : S23), 17, 20, 16, 20⟩ : S84), (⟨17, (⟨bt217.1, bt217.2⟩ : S23), 21, 22, 21, 21⟩ : S84), (⟨22, (⟨bt219.1, bt219.2⟩ : S23), 14, 14, 14, 14⟩ : S84), (⟨23, (⟨bt221.1, bt221.2⟩ : S23), 18, 18, 18, 18⟩ : S84), (⟨25, (⟨bt223.1, bt223.2⟩ : S23), 6, 7, 6, 6⟩ : S84), (⟨28, (⟨bt225.1, bt225.2⟩ : S23), 15, 15, 15, 15⟩ : S84)] : List (S84)))))))))) = some r := H
  have A12 := Aside0.mk A120
  clear A120
  replace H := Option.bind_eq_some_iff.mp H
  obtain ⟨⟨t215, t216⟩, A130, H⟩ := H
  replace H : ((feast_rows_1.f 7).bind fun bt217 => ((feast_rows_1.f 8).bind fun bt219 => ((feast_rows_1.f 8).bind fun bt221 => ((feast_rows_1.f 9).bind fun bt223 => ((feast_rows_1.f 11).bind fun bt225 => (some (([(⟨1, (⟨t191, t192⟩ : S23), 1, 2, 1, 2⟩ : S84), (⟨3, (⟨t193, t194⟩ : S23), 10, 10, 10, 10⟩ : S84), (⟨4, (⟨t195, t196⟩ : S23), 15, 16, 15, 15⟩ : S84), (⟨5, (⟨t197, t198⟩ : S23), 17, 20, 16, 20⟩ : S84), (⟨6, (⟨t199, t200⟩ : S23), 21, 21, 21, 21⟩ : S84), (⟨7, (⟨t201, t202⟩ : S23), 22, 22, 22, 22⟩ : S84), (⟨8, (⟨t203, t204⟩ : S23), 23, 23, 22, 22⟩ : S84), (⟨9, (⟨t205, t206⟩ : S23), 25, 32, 25, 32⟩ : S84), (⟨11, (⟨t207, t208⟩ : S23), 15, 15, 15, 15⟩ : S84), (⟨12, (⟨5, true⟩ : S23), 14, 14, 14, 14⟩ : S84), (⟨14, (⟨t209, t210⟩ : S23), 14, 14, 14, 14⟩ : S84), (⟨15, (⟨t211, t212⟩ : S23), 15, 15, 15, 15⟩ : S84), (⟨17, (⟨t213, t214⟩ : S23), 15, 16, 15, 15⟩ : S84), (⟨18, (⟨t215, t216⟩ : S23), 17, 20, 16, 20⟩ : S84), (⟨17, (⟨bt217.1, bt217.2⟩ : S23), 21, 22, 21, 21⟩ : S84), (⟨22, (⟨bt219.1, bt219.2⟩ : S23), 14, 14, 14, 14⟩ : S84), (⟨23, (⟨bt221.1, bt221.2⟩ : S23), 18, 18, 18, 18⟩ : S84), (⟨25, (⟨bt223.1, bt223.2⟩ : S23), 6, 7, 6, 6⟩ : S84), (⟨28, (⟨bt225.1, bt225.2⟩ : S23), 15, 15, 15, 15⟩ : S84)] : List (S84))))))))) = some r := H
  have A13 := Aside0.mk A130
  clear A130
  replace H := Option.bind_eq_some_iff.mp H
  obtain ⟨⟨t217, t218⟩, A140, H⟩ := H
  replace H : ((feast_rows_1.f 8).bind fun bt219 => ((feast_rows_1.f 8).bind fun bt221 => ((feast_rows_1.f 9).bind fun bt223 => ((feast_rows_1.f 11).bind fun bt225 => (some (([(⟨1, (⟨t191, t192⟩ : S23), 1, 2, 1, 2⟩ : S84), (⟨3, (⟨t193, t194⟩ : S23), 10, 10, 10, 10⟩ : S84), (⟨4, (⟨t195, t196⟩ : S23), 15, 16, 15, 15⟩ : S84), (⟨5, (⟨t197, t198⟩ : S23), 17, 20, 16, 20⟩ : S84), (⟨6, (⟨t199, t200⟩ : S23), 21, 21, 21, 21⟩ : S84), (⟨7, (⟨t201, t202⟩ : S23), 22, 22, 22, 22⟩ : S84), (⟨8, (⟨t203, t204⟩ : S23), 23, 23, 22, 22⟩ : S84), (⟨9, (⟨t205, t206⟩ : S23), 25, 32, 25, 32⟩ : S84), (⟨11, (⟨t207, t208⟩ : S23), 15, 15, 15, 15⟩ : S84), (⟨12, (⟨5, true⟩ : S23), 14, 14, 14, 14⟩ : S84), (⟨14, (⟨t209, t210⟩ : S23), 14, 14, 14, 14⟩ : S84), (⟨15, (⟨t211, t212⟩ : S23), 15, 15, 15, 15⟩ : S84), (⟨17, (⟨t213, t214⟩ : S23), 15, 16, 15, 15⟩ : S84), (⟨18, (⟨t215, t216⟩ : S23), 17, 20, 16, 20⟩ : S84), (⟨17, (⟨t217, t218⟩ : S23), 21, 22, 21, 21⟩ : S84), (⟨22, (⟨bt219.1, bt219.2⟩ : S23), 14, 14, 14, 14⟩ : S84), (⟨23, (⟨bt221.1, bt221.2⟩ : S23), 18, 18, 18, 18⟩ : S84), (⟨25, (⟨bt223.1, bt223.2⟩ : S23), 6, 7, 6, 6⟩ : S84), (⟨28, (⟨bt225.1, bt225.2⟩ : S23), 15, 15, 15, 15⟩ : S84)] : List (S84)))))))) = some r := H
  have A14 := Aside0.mk A140
  clear A140
  replace H := Option.bind_eq_some_iff.mp H
  obtain ⟨⟨t219, t220⟩, A150, H⟩ := H
  replace H : ((feast_rows_1.f 8).bind fun bt221 => ((feast_rows_1.f 9).bind fun bt223 => ((feast_rows_1.f 11).bind fun bt225 => (some (([(⟨1, (⟨t191, t192⟩ : S23), 1, 2, 1, 2⟩ : S84), (⟨3, (⟨t193, t194⟩ : S23), 10, 10, 10, 10⟩ : S84), (⟨4, (⟨t195, t196⟩ : S23), 15, 16, 15, 15⟩ : S84), (⟨5, (⟨t197, t198⟩ : S23), 17, 20, 16, 20⟩ : S84), (⟨6, (⟨t199, t200⟩ : S23), 21, 21, 21, 21⟩ : S84), (⟨7, (⟨t201, t202⟩ : S23), 22, 22, 22, 22⟩ : S84), (⟨8, (⟨t203, t204⟩ : S23), 23, 23, 22, 22⟩ : S84), (⟨9, (⟨t205, t206⟩ : S23), 25, 32, 25, 32⟩ : S84), (⟨11, (⟨t207, t208⟩ : S23), 15, 15, 15, 15⟩ : S84), (⟨12, (⟨5, true⟩ : S23), 14, 14, 14, 14⟩ : S84), (⟨14, (⟨t209, t210⟩ : S23), 14, 14, 14, 14⟩ : S84), (⟨15, (⟨t211, t212⟩ : S23), 15, 15, 15, 15⟩ : S84), (⟨17, (⟨t213, t214⟩ : S23), 15, 16, 15, 15⟩ : S84), (⟨18, (⟨t215, t216⟩ : S23), 17, 20, 16, 20⟩ : S84), (⟨17, (⟨t217, t218⟩ : S23), 21, 22, 21, 21⟩ : S84), (⟨22, (⟨t219, t220⟩ : S23), 14, 14, 14, 14⟩ : S84), (⟨23, (⟨bt221.1, bt221.2⟩ : S23), 18, 18, 18, 18⟩ : S84), (⟨25, (⟨bt223.1, bt223.2⟩ : S23), 6, 7, 6, 6⟩ : S84), (⟨28, (⟨bt225.1, bt225.2⟩ : S23), 15, 15, 15, 15⟩ : S84)] : List (S84))))))) = some r := H
  have A15 := Aside0.mk A150
  clear A150
  replace H := Option.bind_eq_some_iff.mp H
  obtain ⟨⟨t221, t222⟩, A160, H⟩ := H
  replace H : ((feast_rows_1.f 9).bind fun bt223 => ((feast_rows_1.f 11).bind fun bt225 => (some (([(⟨1, (⟨t191, t192⟩ : S23), 1, 2, 1, 2⟩ : S84), (⟨3, (⟨t193, t194⟩ : S23), 10, 10, 10, 10⟩ : S84), (⟨4, (⟨t195, t196⟩ : S23), 15, 16, 15, 15⟩ : S84), (⟨5, (⟨t197, t198⟩ : S23), 17, 20, 16, 20⟩ : S84), (⟨6, (⟨t199, t200⟩ : S23), 21, 21, 21, 21⟩ : S84), (⟨7, (⟨t201, t202⟩ : S23), 22, 22, 22, 22⟩ : S84), (⟨8, (⟨t203, t204⟩ : S23), 23, 23, 22, 22⟩ : S84), (⟨9, (⟨t205, t206⟩ : S23), 25, 32, 25, 32⟩ : S84), (⟨11, (⟨t207, t208⟩ : S23), 15, 15, 15, 15⟩ : S84), (⟨12, (⟨5, true⟩ : S23), 14, 14, 14, 14⟩ : S84), (⟨14, (⟨t209, t210⟩ : S23), 14, 14, 14, 14⟩ : S84), (⟨15, (⟨t211, t212⟩ : S23), 15, 15, 15, 15⟩ : S84), (⟨17, (⟨t213, t214⟩ : S23), 15, 16, 15, 15⟩ : S84), (⟨18, (⟨t215, t216⟩ : S23), 17, 20, 16, 20⟩ : S84), (⟨17, (⟨t217, t218⟩ : S23), 21, 22, 21, 21⟩ : S84), (⟨22, (⟨t219, t220⟩ : S23), 14, 14, 14, 14⟩ : S84), (⟨23, (⟨t221, t222⟩ : S23), 18, 18, 18, 18⟩ : S84), (⟨25, (⟨bt223.1, bt223.2⟩ : S23), 6, 7, 6, 6⟩ : S84), (⟨28, (⟨bt225.1, bt225.2⟩ : S23), 15, 15, 15, 15⟩ : S84)] : List (S84)))))) = some r := H
  have A16 := Aside0.mk A160
  clear A160
  replace H := Option.bind_eq_some_iff.mp H
  obtain ⟨⟨t223, t224⟩, A170, H⟩ := H
  replace H : ((feast_rows_1.f 11).bind fun bt225 => (some (([(⟨1, (⟨t191, t192⟩ : S23), 1, 2, 1, 2⟩ : S84), (⟨3, (⟨t193, t194⟩ : S23), 10, 10, 10, 10⟩ : S84), (⟨4, (⟨t195, t196⟩ : S23), 15, 16, 15, 15⟩ : S84), (⟨5, (⟨t197, t198⟩ : S23), 17, 20, 16, 20⟩ : S84), (⟨6, (⟨t199, t200⟩ : S23), 21, 21, 21, 21⟩ : S84), (⟨7, (⟨t201, t202⟩ : S23), 22, 22, 22, 22⟩ : S84), (⟨8, (⟨t203, t204⟩ : S23), 23, 23, 22, 22⟩ : S84), (⟨9, (⟨t205, t206⟩ : S23), 25, 32, 25, 32⟩ : S84), (⟨11, (⟨t207, t208⟩ : S23), 15, 15, 15, 15⟩ : S84), (⟨12, (⟨5, true⟩ : S23), 14, 14, 14, 14⟩ : S84), (⟨14, (⟨t209, t210⟩ : S23), 14, 14, 14, 14⟩ : S84), (⟨15, (⟨t211, t212⟩ : S23), 15, 15, 15, 15⟩ : S84), (⟨17, (⟨t213, t214⟩ : S23), 15, 16, 15, 15⟩ : S84), (⟨18, (⟨t215, t216⟩ : S23), 17, 20, 16, 20⟩ : S84), (⟨17, (⟨t217, t218⟩ : S23), 21, 22, 21, 21⟩ : S84), (⟨22, (⟨t219, t220⟩ : S23), 14, 14, 14, 14⟩ : S84), (⟨23, (⟨t221, t222⟩ : S23), 18, 18, 18, 18⟩ : S84), (⟨25, (⟨t223, t224⟩ : S23), 6, 7, 6, 6⟩ : S84), (⟨28, (⟨bt225.1, bt225.2⟩ : S23), 15, 15, 15, 15⟩ : S84)] : List (S84))))) = some r := H
  have A17 := Aside0.mk A170
  clear A170
  replace H := Option.bind_eq_some_iff.mp H
  obtain ⟨⟨t225, t226⟩, A180, H⟩ := H
  replace H : (some (([(⟨1, (⟨t191, t192⟩ : S23), 1, 2, 1, 2⟩ : S84), (⟨3, (⟨t193, t194⟩ : S23), 10, 10, 10, 10⟩ : S84), (⟨4, (⟨t195, t196⟩ : S23), 15, 16, 15, 15⟩ : S84), (⟨5, (⟨t197, t198⟩ : S23), 17, 20, 16, 20⟩ : S84), (⟨6, (⟨t199, t200⟩ : S23), 21, 21, 21, 21⟩ : S84), (⟨7, (⟨t201, t202⟩ : S23), 22, 22, 22, 22⟩ : S84), (⟨8, (⟨t203, t204⟩ : S23), 23, 23, 22, 22⟩ : S84), (⟨9, (⟨t205, t206⟩ : S23), 25, 32, 25, 32⟩ : S84), (⟨11, (⟨t207, t208⟩ : S23), 15, 15, 15, 15⟩ : S84), (⟨12, (⟨5, true⟩ : S23), 14, 14, 14, 14⟩ : S84), (⟨14, (⟨t209, t210⟩ : S23), 14, 14, 14, 14⟩ : S84), (⟨15, (⟨t211, t212⟩ : S23), 15, 15, 15, 15⟩ : S84), (⟨17, (⟨t213, t214⟩ : S23), 15, 16, 15, 15⟩ : S84), (⟨18, (⟨t215, t216⟩ : S23), 17, 20, 16, 20⟩ : S84), (⟨17, (⟨t217, t218⟩ : S23), 21, 22, 21, 21⟩ : S84), (⟨22, (⟨t219, t220⟩ : S23), 14, 14, 14, 14⟩ : S84), (⟨23, (⟨t221, t222⟩ : S23), 18, 18, 18, 18⟩ : S84), (⟨25, (⟨t223, t224⟩ : S23), 6, 7, 6, 6⟩ : S84), (⟨28, (⟨t225, t226⟩ : S23), 15, 15, 15, 15⟩ : S84)] : List (S84)))) = some r := H
  have A18 := Aside0.mk A180
  clear A180
  obtain ⟨y227, hy227⟩ : ∃ y_ : List (S84), y_ = (([(⟨1, (⟨t191, t192⟩ : S23), 1, 2, 1, 2⟩ : S84), (⟨3, (⟨t193, t194⟩ : S23), 10, 10, 10, 10⟩ : S84), (⟨4, (⟨t195, t196⟩ : S23), 15, 16, 15, 15⟩ : S84), (⟨5, (⟨t197, t198⟩ : S23), 17, 20, 16, 20⟩ : S84), (⟨6, (⟨t199, t200⟩ : S23), 21, 21, 21, 21⟩ : S84), (⟨7, (⟨t201, t202⟩ : S23), 22, 22, 22, 22⟩ : S84), (⟨8, (⟨t203, t204⟩ : S23), 23, 23, 22, 22⟩ : S84), (⟨9, (⟨t205, t206⟩ : S23), 25, 32, 25, 32⟩ : S84), (⟨11, (⟨t207, t208⟩ : S23), 15, 15, 15, 15⟩ : S84), (⟨12, (⟨5, true⟩ : S23), 14, 14, 14, 14⟩ : S84), (⟨14, (⟨t209, t210⟩ : S23), 14, 14, 14, 14⟩ : S84), (⟨15, (⟨t211, t212⟩ : S23), 15, 15, 15, 15⟩ : S84), (⟨17, (⟨t213, t214⟩ : S23), 15, 16, 15, 15⟩ : S84), (⟨18, (⟨t215, t216⟩ : S23), 17, 20, 16, 20⟩ : S84), (⟨17, (⟨t217, t218⟩ : S23), 21, 22, 21, 21⟩ : S84), (⟨22, (⟨t219, t220⟩ : S23), 14, 14, 14, 14⟩ : S84), (⟨23, (⟨t221, t222⟩ : S23), 18, 18, 18, 18⟩ : S84), (⟨25, (⟨t223, t224⟩ : S23), 6, 7, 6, 6⟩ : S84), (⟨28, (⟨t225, t226⟩ : S23), 15, 15, 15, 15⟩ : S84)] : List (S84))) := ⟨_, rfl⟩
  replace H : (some y227) = some r := by first | (rw [hy227]; with_reducible exact H) | (have H2_ := (Option.bind_some _ _).symm.trans H; rw [hy227]; with_reducible exact H2_) | (have H2_ := (Option.bind_some _ _).symm.trans H; with_reducible exact H2_) | with_reducible exact H | (rw [hy227]; exact H) | exact H
  have Ny227 := Aside0.mk hy227
  clear hy227
  obtain rfl := Option.some.inj H
  go_enter Tryd.func57, Tryd.ntmps57
  go_wp2_with (first | ((with_reducible refine gate_calleeT (t := 2) rfl ?_); refine goesT_ (some 3) rfl rfl Tryd.func88 (by kernel_rfl) rfl #[.int .i64 1] rfl (by first | rfl | go_simp) (by (try simp only [List.map_toArray, List.map_cons, List.map_nil]); first | done | rfl | (simp only [List.length_drop, List.length_take]; rfl)) ?_; (with_reducible refine (feast_rows_1.calls 1 t191 t192 _ A1.out).mono ?_); rintro e w19 ⟨rfl, hb⟩; refine ⟨_, rfl, ?_⟩; have n0_ := Aside0.mk (below_step (by repeat (first | (with_reducible first | exact HB.out | apply below_alloc | apply pw_below_drewN | apply below_drew1) | exact HB.out)) hb); clear HB; have HB := n0_; clear n0_; (try clear hb); (try clear hb2); (try clear hk); (try clear hi)) | ((with_reducible refine gate_calleeT (t := 5) rfl ?_); refine goesT_ (some 6) rfl rfl Tryd.func88 (by kernel_rfl) rfl #[.int .i64 1] rfl (by first | rfl | go_simp) (by (try simp only [List.map_toArray, List.map_cons, List.map_nil]); first | done | rfl | (simp only [List.length_drop, List.length_take]; rfl)) ?_; (with_reducible refine (feast_rows_1.calls 1 t193 t194 _ A2.out).mono ?_); rintro e w20 ⟨rfl, hb⟩; refine ⟨_, rfl, ?_⟩; have n0_ := Aside0.mk (below_step (by repeat (first | (with_reducible first | exact HB.out | apply below_alloc | apply pw_below_drewN | apply below_drew1) | exact HB.out)) hb); clear HB; have HB := n0_; clear n0_; (try clear hb); (try clear hb2); (try clear hk); (try clear hi)) | ((with_reducible refine gate_calleeT (t := 8) rfl ?_); refine goesT_ (some 9) rfl rfl Tryd.func88 (by kernel_rfl) rfl #[.int .i64 1] rfl (by first | rfl | go_simp) (by (try simp only [List.map_toArray, List.map_cons, List.map_nil]); first | done | rfl | (simp only [List.length_drop, List.length_take]; rfl)) ?_; (with_reducible refine (feast_rows_1.calls 1 t195 t196 _ A3.out).mono ?_); rintro e w21 ⟨rfl, hb⟩; refine ⟨_, rfl, ?_⟩; have n0_ := Aside0.mk (below_step (by repeat (first | (with_reducible first | exact HB.out | apply below_alloc | apply pw_below_drewN | apply below_drew1) | exact HB.out)) hb); clear HB; have HB := n0_; clear n0_; (try clear hb); (try clear hb2); (try clear hk); (try clear hi)) | ((with_reducible refine gate_calleeT (t := 11) rfl ?_); refine goesT_ (some 12) rfl rfl Tryd.func88 (by kernel_rfl) rfl #[.int .i64 1] rfl (by first | rfl | go_simp) (by (try simp only [List.map_toArray, List.map_cons, List.map_nil]); first | done | rfl | (simp only [List.length_drop, List.length_take]; rfl)) ?_; (with_reducible refine (feast_rows_1.calls 1 t197 t198 _ A4.out).mono ?_); rintro e w22 ⟨rfl, hb⟩; refine ⟨_, rfl, ?_⟩; have n0_ := Aside0.mk (below_step (by repeat (first | (with_reducible first | exact HB.out | apply below_alloc | apply pw_below_drewN | apply below_drew1) | exact HB.out)) hb); clear HB; have HB := n0_; clear n0_; (try clear hb); (try clear hb2); (try clear hk); (try clear hi)) | ((with_reducible refine gate_calleeT (t := 14) rfl ?_); refine goesT_ (some 15) rfl rfl Tryd.func88 (by kernel_rfl) rfl #[.int .i64 1] rfl (by first | rfl | go_simp) (by (try simp only [List.map_toArray, List.map_cons, List.map_nil]); first | done | rfl | (simp only [List.length_drop, List.length_take]; rfl)) ?_; (with_reducible refine (feast_rows_1.calls 1 t199 t200 _ A5.out).mono ?_); rintro e w23 ⟨rfl, hb⟩; refine ⟨_, rfl, ?_⟩; have n0_ := Aside0.mk (below_step (by repeat (first | (with_reducible first | exact HB.out | apply below_alloc | apply pw_below_drewN | apply below_drew1) | exact HB.out)) hb); clear HB; have HB := n0_; clear n0_; (try clear hb); (try clear hb2); (try clear hk); (try clear hi)) | ((with_reducible refine gate_calleeT (t := 17) rfl ?_); refine goesT_ (some 18) rfl rfl Tryd.func88 (by kernel_rfl) rfl #[.int .i64 1] rfl (by first | rfl | go_simp) (by (try simp only [List.map_toArray, List.map_cons, List.map_nil]); first | done | rfl | (simp only [List.length_drop, List.length_take]; rfl)) ?_; (with_reducible refine (feast_rows_1.calls 1 t201 t202 _ A6.out).mono ?_); rintro e w24 ⟨rfl, hb⟩; refine ⟨_, rfl, ?_⟩; have n0_ := Aside0.mk (below_step (by repeat (first | (with_reducible first | exact HB.out | apply below_alloc | apply pw_below_drewN | apply below_drew1) | exact HB.out)) hb); clear HB; have HB := n0_; clear n0_; (try clear hb); (try clear hb2); (try clear hk); (try clear hi)) | ((with_reducible refine gate_calleeT (t := 20) rfl ?_); refine goesT_ (some 21) rfl rfl Tryd.func88 (by kernel_rfl) rfl #[.int .i64 1] rfl (by first | rfl | go_simp) (by (try simp only [List.map_toArray, List.map_cons, List.map_nil]); first | done | rfl | (simp only [List.length_drop, List.length_take]; rfl)) ?_; (with_reducible refine (feast_rows_1.calls 1 t203 t204 _ A7.out).mono ?_); rintro e w25 ⟨rfl, hb⟩; refine ⟨_, rfl, ?_⟩; have n0_ := Aside0.mk (below_step (by repeat (first | (with_reducible first | exact HB.out | apply below_alloc | apply pw_below_drewN | apply below_drew1) | exact HB.out)) hb); clear HB; have HB := n0_; clear n0_; (try clear hb); (try clear hb2); (try clear hk); (try clear hi)) | ((with_reducible refine gate_calleeT (t := 23) rfl ?_); refine goesT_ (some 24) rfl rfl Tryd.func88 (by kernel_rfl) rfl #[.int .i64 3] rfl (by first | rfl | go_simp) (by (try simp only [List.map_toArray, List.map_cons, List.map_nil]); first | done | rfl | (simp only [List.length_drop, List.length_take]; rfl)) ?_; (with_reducible refine (feast_rows_1.calls 3 t205 t206 _ A8.out).mono ?_); rintro e w26 ⟨rfl, hb⟩; refine ⟨_, rfl, ?_⟩; have n0_ := Aside0.mk (below_step (by repeat (first | (with_reducible first | exact HB.out | apply below_alloc | apply pw_below_drewN | apply below_drew1) | exact HB.out)) hb); clear HB; have HB := n0_; clear n0_; (try clear hb); (try clear hb2); (try clear hk); (try clear hi)) | ((with_reducible refine gate_calleeT (t := 26) rfl ?_); refine goesT_ (some 27) rfl rfl Tryd.func88 (by kernel_rfl) rfl #[.int .i64 5] rfl (by first | rfl | go_simp) (by (try simp only [List.map_toArray, List.map_cons, List.map_nil]); first | done | rfl | (simp only [List.length_drop, List.length_take]; rfl)) ?_; (with_reducible refine (feast_rows_1.calls 5 t207 t208 _ A9.out).mono ?_); rintro e w27 ⟨rfl, hb⟩; refine ⟨_, rfl, ?_⟩; have n0_ := Aside0.mk (below_step (by repeat (first | (with_reducible first | exact HB.out | apply below_alloc | apply pw_below_drewN | apply below_drew1) | exact HB.out)) hb); clear HB; have HB := n0_; clear n0_; (try clear hb); (try clear hb2); (try clear hk); (try clear hi)) | ((with_reducible refine gate_calleeT (t := 31) rfl ?_); refine goesT_ (some 32) rfl rfl Tryd.func88 (by kernel_rfl) rfl #[.int .i64 6] rfl (by first | rfl | go_simp) (by (try simp only [List.map_toArray, List.map_cons, List.map_nil]); first | done | rfl | (simp only [List.length_drop, List.length_take]; rfl)) ?_; (with_reducible refine (feast_rows_1.calls 6 t209 t210 _ A10.out).mono ?_); rintro e w28 ⟨rfl, hb⟩; refine ⟨_, rfl, ?_⟩; have n0_ := Aside0.mk (below_step (by repeat (first | (with_reducible first | exact HB.out | apply below_alloc | apply pw_below_drewN | apply below_drew1) | exact HB.out)) hb); clear HB; have HB := n0_; clear n0_; (try clear hb); (try clear hb2); (try clear hk); (try clear hi)) | ((with_reducible refine gate_calleeT (t := 34) rfl ?_); refine goesT_ (some 35) rfl rfl Tryd.func88 (by kernel_rfl) rfl #[.int .i64 6] rfl (by first | rfl | go_simp) (by (try simp only [List.map_toArray, List.map_cons, List.map_nil]); first | done | rfl | (simp only [List.length_drop, List.length_take]; rfl)) ?_; (with_reducible refine (feast_rows_1.calls 6 t211 t212 _ A11.out).mono ?_); rintro e w29 ⟨rfl, hb⟩; refine ⟨_, rfl, ?_⟩; have n0_ := Aside0.mk (below_step (by repeat (first | (with_reducible first | exact HB.out | apply below_alloc | apply pw_below_drewN | apply below_drew1) | exact HB.out)) hb); clear HB; have HB := n0_; clear n0_; (try clear hb); (try clear hb2); (try clear hk); (try clear hi)) | ((with_reducible refine gate_calleeT (t := 37) rfl ?_); refine goesT_ (some 38) rfl rfl Tryd.func88 (by kernel_rfl) rfl #[.int .i64 7] rfl (by first | rfl | go_simp) (by (try simp only [List.map_toArray, List.map_cons, List.map_nil]); first | done | rfl | (simp only [List.length_drop, List.length_take]; rfl)) ?_; (with_reducible refine (feast_rows_1.calls 7 t213 t214 _ A12.out).mono ?_); rintro e w30 ⟨rfl, hb⟩; refine ⟨_, rfl, ?_⟩; have n0_ := Aside0.mk (below_step (by repeat (first | (with_reducible first | exact HB.out | apply below_alloc | apply pw_below_drewN | apply below_drew1) | exact HB.out)) hb); clear HB; have HB := n0_; clear n0_; (try clear hb); (try clear hb2); (try clear hk); (try clear hi)) | ((with_reducible refine gate_calleeT (t := 40) rfl ?_); refine goesT_ (some 41) rfl rfl Tryd.func88 (by kernel_rfl) rfl #[.int .i64 7] rfl (by first | rfl | go_simp) (by (try simp only [List.map_toArray, List.map_cons, List.map_nil]); first | done | rfl | (simp only [List.length_drop, List.length_take]; rfl)) ?_; (with_reducible refine (feast_rows_1.calls 7 t215 t216 _ A13.out).mono ?_); rintro e w31 ⟨rfl, hb⟩; refine ⟨_, rfl, ?_⟩; have n0_ := Aside0.mk (below_step (by repeat (first | (with_reducible first | exact HB.out | apply below_alloc | apply pw_below_drewN | apply below_drew1) | exact HB.out)) hb); clear HB; have HB := n0_; clear n0_; (try clear hb); (try clear hb2); (try clear hk); (try clear hi)) | ((with_reducible refine gate_calleeT (t := 43) rfl ?_); refine goesT_ (some 44) rfl rfl Tryd.func88 (by kernel_rfl) rfl #[.int .i64 7] rfl (by first | rfl | go_simp) (by (try simp only [List.map_toArray, List.map_cons, List.map_nil]); first | done | rfl | (simp only [List.length_drop, List.length_take]; rfl)) ?_; (with_reducible refine (feast_rows_1.calls 7 t217 t218 _ A14.out).mono ?_); rintro e w32 ⟨rfl, hb⟩; refine ⟨_, rfl, ?_⟩; have n0_ := Aside0.mk (below_step (by repeat (first | (with_reducible first | exact HB.out | apply below_alloc | apply pw_below_drewN | apply below_drew1) | exact HB.out)) hb); clear HB; have HB := n0_; clear n0_; (try clear hb); (try clear hb2); (try clear hk); (try clear hi)) | ((with_reducible refine gate_calleeT (t := 46) rfl ?_); refine goesT_ (some 47) rfl rfl Tryd.func88 (by kernel_rfl) rfl #[.int .i64 8] rfl (by first | rfl | go_simp) (by (try simp only [List.map_toArray, List.map_cons, List.map_nil]); first | done | rfl | (simp only [List.length_drop, List.length_take]; rfl)) ?_; (with_reducible refine (feast_rows_1.calls 8 t219 t220 _ A15.out).mono ?_); rintro e w33 ⟨rfl, hb⟩; refine ⟨_, rfl, ?_⟩; have n0_ := Aside0.mk (below_step (by repeat (first | (with_reducible first | exact HB.out | apply below_alloc | apply pw_below_drewN | apply below_drew1) | exact HB.out)) hb); clear HB; have HB := n0_; clear n0_; (try clear hb); (try clear hb2); (try clear hk); (try clear hi)) | ((with_reducible refine gate_calleeT (t := 49) rfl ?_); refine goesT_ (some 50) rfl rfl Tryd.func88 (by kernel_rfl) rfl #[.int .i64 8] rfl (by first | rfl | go_simp) (by (try simp only [List.map_toArray, List.map_cons, List.map_nil]); first | done | rfl | (simp only [List.length_drop, List.length_take]; rfl)) ?_; (with_reducible refine (feast_rows_1.calls 8 t221 t222 _ A16.out).mono ?_); rintro e w34 ⟨rfl, hb⟩; refine ⟨_, rfl, ?_⟩; have n0_ := Aside0.mk (below_step (by repeat (first | (with_reducible first | exact HB.out | apply below_alloc | apply pw_below_drewN | apply below_drew1) | exact HB.out)) hb); clear HB; have HB := n0_; clear n0_; (try clear hb); (try clear hb2); (try clear hk); (try clear hi)) | ((with_reducible refine gate_calleeT (t := 52) rfl ?_); refine goesT_ (some 53) rfl rfl Tryd.func88 (by kernel_rfl) rfl #[.int .i64 9] rfl (by first | rfl | go_simp) (by (try simp only [List.map_toArray, List.map_cons, List.map_nil]); first | done | rfl | (simp only [List.length_drop, List.length_take]; rfl)) ?_; (with_reducible refine (feast_rows_1.calls 9 t223 t224 _ A17.out).mono ?_); rintro e w35 ⟨rfl, hb⟩; refine ⟨_, rfl, ?_⟩; have n0_ := Aside0.mk (below_step (by repeat (first | (with_reducible first | exact HB.out | apply below_alloc | apply pw_below_drewN | apply below_drew1) | exact HB.out)) hb); clear HB; have HB := n0_; clear n0_; (try clear hb); (try clear hb2); (try clear hk); (try clear hi)) | ((with_reducible refine gate_calleeT (t := 55) rfl ?_); refine goesT_ (some 56) rfl rfl Tryd.func88 (by kernel_rfl) rfl #[.int .i64 11] rfl (by first | rfl | go_simp) (by (try simp only [List.map_toArray, List.map_cons, List.map_nil]); first | done | rfl | (simp only [List.length_drop, List.length_take]; rfl)) ?_; (with_reducible refine (feast_rows_1.calls 11 t225 t226 _ A18.out).mono ?_); rintro e w36 ⟨rfl, hb⟩; refine ⟨_, rfl, ?_⟩; have n0_ := Aside0.mk (below_step (by repeat (first | (with_reducible first | exact HB.out | apply below_alloc | apply pw_below_drewN | apply below_drew1) | exact HB.out)) hb); clear HB; have HB := n0_; clear n0_; (try clear hb); (try clear hb2); (try clear hk); (try clear hi)) | ((with_reducible refine gate_dst (N := 58) rfl ?_); refine Kd.R_lit k84 _ 84 ?hg (N := 58) ?hd (xs := ([(⟨1, (⟨t191, t192⟩ : S23), 1, 2, 1, 2⟩ : S84), (⟨3, (⟨t193, t194⟩ : S23), 10, 10, 10, 10⟩ : S84), (⟨4, (⟨t195, t196⟩ : S23), 15, 16, 15, 15⟩ : S84), (⟨5, (⟨t197, t198⟩ : S23), 17, 20, 16, 20⟩ : S84), (⟨6, (⟨t199, t200⟩ : S23), 21, 21, 21, 21⟩ : S84), (⟨7, (⟨t201, t202⟩ : S23), 22, 22, 22, 22⟩ : S84), (⟨8, (⟨t203, t204⟩ : S23), 23, 23, 22, 22⟩ : S84), (⟨9, (⟨t205, t206⟩ : S23), 25, 32, 25, 32⟩ : S84), (⟨11, (⟨t207, t208⟩ : S23), 15, 15, 15, 15⟩ : S84), (⟨12, (⟨5, true⟩ : S23), 14, 14, 14, 14⟩ : S84), (⟨14, (⟨t209, t210⟩ : S23), 14, 14, 14, 14⟩ : S84), (⟨15, (⟨t211, t212⟩ : S23), 15, 15, 15, 15⟩ : S84), (⟨17, (⟨t213, t214⟩ : S23), 15, 16, 15, 15⟩ : S84), (⟨18, (⟨t215, t216⟩ : S23), 17, 20, 16, 20⟩ : S84), (⟨17, (⟨t217, t218⟩ : S23), 21, 22, 21, 21⟩ : S84), (⟨22, (⟨t219, t220⟩ : S23), 14, 14, 14, 14⟩ : S84), (⟨23, (⟨t221, t222⟩ : S23), 18, 18, 18, 18⟩ : S84), (⟨25, (⟨t223, t224⟩ : S23), 6, 7, 6, 6⟩ : S84), (⟨28, (⟨t225, t226⟩ : S23), 15, 15, 15, 15⟩ : S84)] : List (S84))) (inner := [.int .i64 1, .int .i64 t191, .bool t192, .int .i64 1, .int .i64 2, .int .i64 1, .int .i64 2, .int .i64 3, .int .i64 t193, .bool t194, .int .i64 10, .int .i64 10, .int .i64 10, .int .i64 10, .int .i64 4, .int .i64 t195, .bool t196, .int .i64 15, .int .i64 16, .int .i64 15, .int .i64 15, .int .i64 5, .int .i64 t197, .bool t198, .int .i64 17, .int .i64 20, .int .i64 16, .int .i64 20, .int .i64 6, .int .i64 t199, .bool t200, .int .i64 21, .int .i64 21, .int .i64 21, .int .i64 21, .int .i64 7, .int .i64 t201, .bool t202, .int .i64 22, .int .i64 22, .int .i64 22, .int .i64 22, .int .i64 8, .int .i64 t203, .bool t204, .int .i64 23, .int .i64 23, .int .i64 22, .int .i64 22, .int .i64 9, .int .i64 t205, .bool t206, .int .i64 25, .int .i64 32, .int .i64 25, .int .i64 32, .int .i64 11, .int .i64 t207, .bool t208, .int .i64 15, .int .i64 15, .int .i64 15, .int .i64 15, .int .i64 12, .int .i64 5, .bool true, .int .i64 14, .int .i64 14, .int .i64 14, .int .i64 14, .int .i64 14, .int .i64 t209, .bool t210, .int .i64 14, .int .i64 14, .int .i64 14, .int .i64 14, .int .i64 15, .int .i64 t211, .bool t212, .int .i64 15, .int .i64 15, .int .i64 15, .int .i64 15, .int .i64 17, .int .i64 t213, .bool t214, .int .i64 15, .int .i64 16, .int .i64 15, .int .i64 15, .int .i64 18, .int .i64 t215, .bool t216, .int .i64 17, .int .i64 20, .int .i64 16, .int .i64 20, .int .i64 17, .int .i64 t217, .bool t218, .int .i64 21, .int .i64 22, .int .i64 21, .int .i64 21, .int .i64 22, .int .i64 t219, .bool t220, .int .i64 14, .int .i64 14, .int .i64 14, .int .i64 14, .int .i64 23, .int .i64 t221, .bool t222, .int .i64 18, .int .i64 18, .int .i64 18, .int .i64 18, .int .i64 25, .int .i64 t223, .bool t224, .int .i64 6, .int .i64 7, .int .i64 6, .int .i64 6, .int .i64 28, .int .i64 t225, .bool t226, .int .i64 15, .int .i64 15, .int .i64 15, .int .i64 15]) (ok := fun _ => True) (okp := fun _ => True) ?hr ?hp (fun _ hk => hk) trivial (Below.refl _ _) (Nat.le_refl _) (by simp) ?_; (case hd => rfl); (case hg => rfl); (case hr => first | (go_simp; done) | (go_simp; rfl)); (case hp => exact (Reps.c7 (show Kd.M k84 _ _ _ (⟨1, (⟨t191, t192⟩ : S23), 1, 2, 1, 2⟩ : S84) [.int .i64 1, .int .i64 t191, .bool t192, .int .i64 1, .int .i64 2, .int .i64 1, .int .i64 2] from (k84_mkM _ _ _ (⟨1, (⟨t191, t192⟩ : S23), 1, 2, 1, 2⟩ : S84) )) (Reps.c7 (show Kd.M k84 _ _ _ (⟨3, (⟨t193, t194⟩ : S23), 10, 10, 10, 10⟩ : S84) [.int .i64 3, .int .i64 t193, .bool t194, .int .i64 10, .int .i64 10, .int .i64 10, .int .i64 10] from (k84_mkM _ _ _ (⟨3, (⟨t193, t194⟩ : S23), 10, 10, 10, 10⟩ : S84) )) (Reps.c7 (show Kd.M k84 _ _ _ (⟨4, (⟨t195, t196⟩ : S23), 15, 16, 15, 15⟩ : S84) [.int .i64 4, .int .i64 t195, .bool t196, .int .i64 15, .int .i64 16, .int .i64 15, .int .i64 15] from (k84_mkM _ _ _ (⟨4, (⟨t195, t196⟩ : S23), 15, 16, 15, 15⟩ : S84) )) (Reps.c7 (show Kd.M k84 _ _ _ (⟨5, (⟨t197, t198⟩ : S23), 17, 20, 16, 20⟩ : S84) [.int .i64 5, .int .i64 t197, .bool t198, .int .i64 17, .int .i64 20, .int .i64 16, .int .i64 20] from (k84_mkM _ _ _ (⟨5, (⟨t197, t198⟩ : S23), 17, 20, 16, 20⟩ : S84) )) (Reps.c7 (show Kd.M k84 _ _ _ (⟨6, (⟨t199, t200⟩ : S23), 21, 21, 21, 21⟩ : S84) [.int .i64 6, .int .i64 t199, .bool t200, .int .i64 21, .int .i64 21, .int .i64 21, .int .i64 21] from (k84_mkM _ _ _ (⟨6, (⟨t199, t200⟩ : S23), 21, 21, 21, 21⟩ : S84) )) (Reps.c7 (show Kd.M k84 _ _ _ (⟨7, (⟨t201, t202⟩ : S23), 22, 22, 22, 22⟩ : S84) [.int .i64 7, .int .i64 t201, .bool t202, .int .i64 22, .int .i64 22, .int .i64 22, .int .i64 22] from (k84_mkM _ _ _ (⟨7, (⟨t201, t202⟩ : S23), 22, 22, 22, 22⟩ : S84) )) (Reps.c7 (show Kd.M k84 _ _ _ (⟨8, (⟨t203, t204⟩ : S23), 23, 23, 22, 22⟩ : S84) [.int .i64 8, .int .i64 t203, .bool t204, .int .i64 23, .int .i64 23, .int .i64 22, .int .i64 22] from (k84_mkM _ _ _ (⟨8, (⟨t203, t204⟩ : S23), 23, 23, 22, 22⟩ : S84) )) (Reps.c7 (show Kd.M k84 _ _ _ (⟨9, (⟨t205, t206⟩ : S23), 25, 32, 25, 32⟩ : S84) [.int .i64 9, .int .i64 t205, .bool t206, .int .i64 25, .int .i64 32, .int .i64 25, .int .i64 32] from (k84_mkM _ _ _ (⟨9, (⟨t205, t206⟩ : S23), 25, 32, 25, 32⟩ : S84) )) (Reps.c7 (show Kd.M k84 _ _ _ (⟨11, (⟨t207, t208⟩ : S23), 15, 15, 15, 15⟩ : S84) [.int .i64 11, .int .i64 t207, .bool t208, .int .i64 15, .int .i64 15, .int .i64 15, .int .i64 15] from (k84_mkM _ _ _ (⟨11, (⟨t207, t208⟩ : S23), 15, 15, 15, 15⟩ : S84) )) (Reps.c7 (show Kd.M k84 _ _ _ (⟨12, (⟨5, true⟩ : S23), 14, 14, 14, 14⟩ : S84) [.int .i64 12, .int .i64 5, .bool true, .int .i64 14, .int .i64 14, .int .i64 14, .int .i64 14] from (k84_mkM _ _ _ (⟨12, (⟨5, true⟩ : S23), 14, 14, 14, 14⟩ : S84) )) (Reps.c7 (show Kd.M k84 _ _ _ (⟨14, (⟨t209, t210⟩ : S23), 14, 14, 14, 14⟩ : S84) [.int .i64 14, .int .i64 t209, .bool t210, .int .i64 14, .int .i64 14, .int .i64 14, .int .i64 14] from (k84_mkM _ _ _ (⟨14, (⟨t209, t210⟩ : S23), 14, 14, 14, 14⟩ : S84) )) (Reps.c7 (show Kd.M k84 _ _ _ (⟨15, (⟨t211, t212⟩ : S23), 15, 15, 15, 15⟩ : S84) [.int .i64 15, .int .i64 t211, .bool t212, .int .i64 15, .int .i64 15, .int .i64 15, .int .i64 15] from (k84_mkM _ _ _ (⟨15, (⟨t211, t212⟩ : S23), 15, 15, 15, 15⟩ : S84) )) (Reps.c7 (show Kd.M k84 _ _ _ (⟨17, (⟨t213, t214⟩ : S23), 15, 16, 15, 15⟩ : S84) [.int .i64 17, .int .i64 t213, .bool t214, .int .i64 15, .int .i64 16, .int .i64 15, .int .i64 15] from (k84_mkM _ _ _ (⟨17, (⟨t213, t214⟩ : S23), 15, 16, 15, 15⟩ : S84) )) (Reps.c7 (show Kd.M k84 _ _ _ (⟨18, (⟨t215, t216⟩ : S23), 17, 20, 16, 20⟩ : S84) [.int .i64 18, .int .i64 t215, .bool t216, .int .i64 17, .int .i64 20, .int .i64 16, .int .i64 20] from (k84_mkM _ _ _ (⟨18, (⟨t215, t216⟩ : S23), 17, 20, 16, 20⟩ : S84) )) (Reps.c7 (show Kd.M k84 _ _ _ (⟨17, (⟨t217, t218⟩ : S23), 21, 22, 21, 21⟩ : S84) [.int .i64 17, .int .i64 t217, .bool t218, .int .i64 21, .int .i64 22, .int .i64 21, .int .i64 21] from (k84_mkM _ _ _ (⟨17, (⟨t217, t218⟩ : S23), 21, 22, 21, 21⟩ : S84) )) (Reps.c7 (show Kd.M k84 _ _ _ (⟨22, (⟨t219, t220⟩ : S23), 14, 14, 14, 14⟩ : S84) [.int .i64 22, .int .i64 t219, .bool t220, .int .i64 14, .int .i64 14, .int .i64 14, .int .i64 14] from (k84_mkM _ _ _ (⟨22, (⟨t219, t220⟩ : S23), 14, 14, 14, 14⟩ : S84) )) (Reps.c7 (show Kd.M k84 _ _ _ (⟨23, (⟨t221, t222⟩ : S23), 18, 18, 18, 18⟩ : S84) [.int .i64 23, .int .i64 t221, .bool t222, .int .i64 18, .int .i64 18, .int .i64 18, .int .i64 18] from (k84_mkM _ _ _ (⟨23, (⟨t221, t222⟩ : S23), 18, 18, 18, 18⟩ : S84) )) (Reps.c7 (show Kd.M k84 _ _ _ (⟨25, (⟨t223, t224⟩ : S23), 6, 7, 6, 6⟩ : S84) [.int .i64 25, .int .i64 t223, .bool t224, .int .i64 6, .int .i64 7, .int .i64 6, .int .i64 6] from (k84_mkM _ _ _ (⟨25, (⟨t223, t224⟩ : S23), 6, 7, 6, 6⟩ : S84) )) (Reps.c7 (show Kd.M k84 _ _ _ (⟨28, (⟨t225, t226⟩ : S23), 15, 15, 15, 15⟩ : S84) [.int .i64 28, .int .i64 t225, .bool t226, .int .i64 15, .int .i64 15, .int .i64 15, .int .i64 15] from (k84_mkM _ _ _ (⟨28, (⟨t225, t226⟩ : S23), 15, 15, 15, 15⟩ : S84) )) (Reps.none _ _))))))))))))))))))))); intro v228 w37 ho38 hb hg_ hnew_; clear hg_ hnew_; (first | rw [← Ny227.out] at ho38 | (simp only [Int.reduceToNat] at ho38; rw [← Ny227.out] at ho38)); have n0_ := Aside0.mk (Kd.R_lower ho38 (below_size (by repeat (first | (with_reducible first | exact HB.out | apply below_alloc | apply pw_below_drewN | apply below_drew1) | exact HB.out)))); have n1_ := Aside0.mk (below_step (by repeat (first | (with_reducible first | exact HB.out | apply below_alloc | apply pw_below_drewN | apply below_drew1) | exact HB.out)) hb); clear HB; have HO229 := n0_; have HB := n1_; clear n0_ n1_; clear hb ho38))
  go_ret
  exact ⟨_, by first | rfl | (simp [errW_none, errW_some] <;> rfl) | (simp [*, errW_none, errW_some] <;> rfl), by (with_reducible repeat (first | apply Kd.R_alloc | apply Kd.R_drewN | apply Kd.R_drew)); exact HO229.out, by repeat (first | (with_reducible first | exact HB.out | apply below_alloc | apply pw_below_drewN | apply below_drew1) | exact HB.out)⟩

end Go.Proofs.YtflpddhoiafhcaaDoor.P
end

section
-- Written by wip/hprint.py of this repo (holes typed by hand, all else by a program) over the seat YtflpddhoiafhcaaDoor.
namespace Go.Proofs.YtflpddhoiafhcaaDoor.P
open Go.Proofs.YtflpddhoiafhcaaDoor.H
open Go.RowKit Go.Proofs.YtflpddhoiafhcaaDoorW.PrintWords Go.Proofs.YtflpddhoiafhcaaDoorW.PrintLast Go.Proofs.YtflpddhoiafhcaaDoorW.PrintMore
attribute [local go_sem] max2_int min2_int max_two min_two max_three min_three max_four min_four   -- for this text's walks alone
set_option linter.unusedVariables false
set_option linter.unusedSimpArgs false

mutual
def feast_Of.j0 : Nat → Int → Int → Bool → Option ((List (S48)) × Int)
  | 0, _, _, _ => none
  | k + 1, x0, x1, x14 => if x14 = true then (some (([] : List (S48)), 1)) else (if x0 < 1 then (some (([] : List (S48)), 2)) else (if x0 > 9999 then (some (([] : List (S48)), 2)) else ((feast_rows.f).bind fun t230 => (feast_Of.l0 k x0 x1 ([] : List (S48)) t230 (t230.length : Int) 0))))
def feast_Of.l0 : Nat → Int → Int → List (S48) → List (S84) → Int → Int → Option ((List (S48)) × Int)
  | 0, _, _, _, _, _, _ => none
  | k + 1, x0, x1, x6, x28, x29, x30 => if x30 < x29 then (if 0 ≤ x30 then (if x30 < (x28.length : Int) then (if x1 = 1 then (feast_Of.j2 k x0 x1 x6 ((rd_T84 x28 x30).f4) ((rd_T84 x28 x30).f5) x28 x29 x30 ((rd_T84 x28 x30).f0) ((rd_T84 x28 x30).f1.f0) ((rd_T84 x28 x30).f1.f1) ((rd_T84 x28 x30).f2) ((rd_T84 x28 x30).f3) ((rd_T84 x28 x30).f4) ((rd_T84 x28 x30).f5)) else (feast_Of.j2 k x0 x1 x6 ((rd_T84 x28 x30).f2) ((rd_T84 x28 x30).f3) x28 x29 x30 ((rd_T84 x28 x30).f0) ((rd_T84 x28 x30).f1.f0) ((rd_T84 x28 x30).f1.f1) ((rd_T84 x28 x30).f2) ((rd_T84 x28 x30).f3) ((rd_T84 x28 x30).f4) ((rd_T84 x28 x30).f5))) else (none)) else (none)) else ((feast_Sort.f x6).bind fun t233 => (some (t233, 0)))
def feast_Of.j2 : Nat → Int → Int → List (S48) → Int → Int → List (S84) → Int → Int → Int → Int → Bool → Int → Int → Int → Int → Option ((List (S48)) × Int)
  | 0, _, _, _, _, _, _, _, _, _, _, _, _, _, _, _ => none
  | k + 1, x0, x1, x6, x9, x10, x28, x29, x30, x238000, x238001, x238002, x238003, x238004, x238005, x238006 => (heb_ToDay.f k x0 x238001 x238002 1).bind fun bt238 => (feast_Of.l1 k x0 x1 x6 x10 bt238.1 bt238.2 x9 x28 x29 x30 x238000 x238001 x238002 x238003 x238004 x238005 x238006)
def feast_Of.l1 : Nat → Int → Int → List (S48) → Int → Int → Int → Int → List (S84) → Int → Int → Int → Int → Bool → Int → Int → Int → Int → Option ((List (S48)) × Int)
  | 0, _, _, _, _, _, _, _, _, _, _, _, _, _, _, _, _, _ => none
  | k + 1, x0, x1, x6, x10, x11, x12, x13, x28, x29, x30, x238000, x238001, x238002, x238003, x238004, x238005, x238006 => if x12 = 0 then (if x13 ≤ x10 then (if x6.length < 8796093022208 then (feast_Of.l1 k x0 x1 (x6 ++ [(⟨x238000, wrap64 ((wrap64 (x11 + x13)) - 1)⟩ : S48)]) x10 x11 x12 (wrap64 (x13 + 1)) x28 x29 x30 x238000 x238001 x238002 x238003 x238004 x238005 x238006) else (none)) else (feast_Of.l0 k x0 x1 x6 x28 x29 (wrap64 (x30 + 1)))) else (feast_Of.l0 k x0 x1 x6 x28 x29 (wrap64 (x30 + 1)))
end
def feast_Of.f (k : Nat) (a0 : Int) (a1 : Int) : Option ((List (S48)) × Int) := if a1 = 0 then (feast_Of.j0 k a0 a1 false) else (feast_Of.j0 k a0 a1 (a1 != 1))
theorem feast_Of.mono_l : ∀ k, (∀ y0 y1 y2, LeO (feast_Of.j0 k y0 y1 y2) (feast_Of.j0 (k + 1) y0 y1 y2)) ∧ (∀ y0 y1 y2 y3 y4 y5, LeO (feast_Of.l0 k y0 y1 y2 y3 y4 y5) (feast_Of.l0 (k + 1) y0 y1 y2 y3 y4 y5)) ∧ (∀ y0 y1 y2 y3 y4 y5 y6 y7 y8 y9 y10 y11 y12 y13 y14, LeO (feast_Of.j2 k y0 y1 y2 y3 y4 y5 y6 y7 y8 y9 y10 y11 y12 y13 y14) (feast_Of.j2 (k + 1) y0 y1 y2 y3 y4 y5 y6 y7 y8 y9 y10 y11 y12 y13 y14)) ∧ (∀ y0 y1 y2 y3 y4 y5 y6 y7 y8 y9 y10 y11 y12 y13 y14 y15 y16, LeO (feast_Of.l1 k y0 y1 y2 y3 y4 y5 y6 y7 y8 y9 y10 y11 y12 y13 y14 y15 y16) (feast_Of.l1 (k + 1) y0 y1 y2 y3 y4 y5 y6 y7 y8 y9 y10 y11 y12 y13 y14 y15 y16))
  | 0 => ⟨fun _ _ _ r h => by simp [feast_Of.j0] at h, fun _ _ _ _ _ _ r h => by simp [feast_Of.l0] at h, fun _ _ _ _ _ _ _ _ _ _ _ _ _ _ _ r h => by simp [feast_Of.j2] at h, fun _ _ _ _ _ _ _ _ _ _ _ _ _ _ _ _ _ r h => by simp [feast_Of.l1] at h⟩
  | k + 1 => by
    obtain ⟨ih0, ih1, ih2, ih3⟩ := feast_Of.mono_l k
    refine ⟨?_, ?_, ?_, ?_⟩
    · intro y0 y1 y2
      unfold feast_Of.j0
      repeat' first
      | (with_reducible exact ih0 _ _ _)
      | (with_reducible exact ih1 _ _ _ _ _ _)
      | (with_reducible exact ih2 _ _ _ _ _ _ _ _ _ _ _ _ _ _ _)
      | (with_reducible exact ih3 _ _ _ _ _ _ _ _ _ _ _ _ _ _ _ _ _)
      | (with_reducible exact heb_ToDay.mono _ _ _ _ _)
      | (with_reducible exact LeO.refl _)
      | (with_reducible exact LeO.none _)
      | (with_reducible refine LeO.ite ?_ ?_)
      | (with_reducible refine LeO.bind ?_ (fun _ => ?_))
      | exact ih0 _ _ _
      | exact ih1 _ _ _ _ _ _
      | exact ih2 _ _ _ _ _ _ _ _ _ _ _ _ _ _ _
      | exact ih3 _ _ _ _ _ _ _ _ _ _ _ _ _ _ _ _ _
      | exact heb_ToDay.mono _ _ _ _ _
      | exact LeO.none _
      | refine LeO.ite ?_ ?_
      | refine LeO.bind ?_ (fun _ => ?_)
    · intro y0 y1 y2 y3 y4 y5
      unfold feast_Of.l0
      repeat' first
      | (with_reducible exact ih0 _ _ _)
      | (with_reducible exact ih1 _ _ _ _ _ _)
      | (with_reducible exact ih2 _ _ _ _ _ _ _ _ _ _ _ _ _ _ _)
      | (with_reducible exact ih3 _ _ _ _ _ _ _ _ _ _ _ _ _ _ _ _ _)
      | (with_reducible exact heb_ToDay.mono _ _ _ _ _)
      | (with_reducible exact LeO.refl _)
      | (with_reducible exact LeO.none _)
      | (with_reducible refine LeO.ite ?_ ?_)
      | (with_reducible refine LeO.bind ?_ (fun _ => ?_))
      | exact ih0 _ _ _
      | exact ih1 _ _ _ _ _ _
      | exact ih2 _ _ _ _ _ _ _ _ _ _ _ _ _ _ _
      | exact ih3 _ _ _ _ _ _ _ _ _ _ _ _ _ _ _ _ _
      | exact heb_ToDay.mono _ _ _ _ _
      | exact LeO.none _
      | refine LeO.ite ?_ ?_
      | refine LeO.bind ?_ (fun _ => ?_)
    · intro y0 y1 y2 y3 y4 y5 y6 y7 y8 y9 y10 y11 y12 y13 y14
      unfold feast_Of.j2
      repeat' first
      | (with_reducible exact ih0 _ _ _)
      | (with_reducible exact ih1 _ _ _ _ _ _)
      | (with_reducible exact ih2 _ _ _ _ _ _ _ _ _ _ _ _ _ _ _)
      | (with_reducible exact ih3 _ _ _ _ _ _ _ _ _ _ _ _ _ _ _ _ _)
      | (with_reducible exact heb_ToDay.mono _ _ _ _ _)
      | (with_reducible exact LeO.refl _)
      | (with_reducible exact LeO.none _)
      | (with_reducible refine LeO.ite ?_ ?_)
      | (with_reducible refine LeO.bind ?_ (fun _ => ?_))
      | exact ih0 _ _ _
      | exact ih1 _ _ _ _ _ _
      | exact ih2 _ _ _ _ _ _ _ _ _ _ _ _ _ _ _
      | exact ih3 _ _ _ _ _ _ _ _ _ _ _ _ _ _ _ _ _
      | exact heb_ToDay.mono _ _ _ _ _
      | exact LeO.none _
      | refine LeO.ite ?_ ?_
      | refine LeO.bind ?_ (fun _ => ?_)
    · intro y0 y1 y2 y3 y4 y5 y6 y7 y8 y9 y10 y11 y12 y13 y14 y15 y16
      unfold feast_Of.l1
      repeat' first
      | (with_reducible exact ih0 _ _ _)
      | (with_reducible exact ih1 _ _ _ _ _ _)
      | (with_reducible exact ih2 _ _ _ _ _ _ _ _ _ _ _ _ _ _ _)
      | (with_reducible exact ih3 _ _ _ _ _ _ _ _ _ _ _ _ _ _ _ _ _)
      | (with_reducible exact heb_ToDay.mono _ _ _ _ _)
      | (with_reducible exact LeO.refl _)
      | (with_reducible exact LeO.none _)
      | (with_reducible refine LeO.ite ?_ ?_)
      | (with_reducible refine LeO.bind ?_ (fun _ => ?_))
      | exact ih0 _ _ _
      | exact ih1 _ _ _ _ _ _
      | exact ih2 _ _ _ _ _ _ _ _ _ _ _ _ _ _ _
      | exact ih3 _ _ _ _ _ _ _ _ _ _ _ _ _ _ _ _ _
      | exact heb_ToDay.mono _ _ _ _ _
      | exact LeO.none _
      | refine LeO.ite ?_ ?_
      | refine LeO.bind ?_ (fun _ => ?_)
theorem feast_Of.mono : ∀ a0 a1 k, LeO (feast_Of.f k a0 a1) (feast_Of.f (k + 1) a0 a1) := by
  intro a0 a1 k
  obtain ⟨ih0, ih1, ih2, ih3⟩ := feast_Of.mono_l k
  unfold feast_Of.f
  repeat' first
      | (with_reducible exact ih0 _ _ _)
      | (with_reducible exact ih1 _ _ _ _ _ _)
      | (with_reducible exact ih2 _ _ _ _ _ _ _ _ _ _ _ _ _ _ _)
      | (with_reducible exact ih3 _ _ _ _ _ _ _ _ _ _ _ _ _ _ _ _ _)
      | (with_reducible exact heb_ToDay.mono _ _ _ _ _)
      | (with_reducible exact LeO.refl _)
      | (with_reducible exact LeO.none _)
      | (with_reducible refine LeO.ite ?_ ?_)
      | (with_reducible refine LeO.bind ?_ (fun _ => ?_))
      | exact ih0 _ _ _
      | exact ih1 _ _ _ _ _ _
      | exact ih2 _ _ _ _ _ _ _ _ _ _ _ _ _ _ _
      | exact ih3 _ _ _ _ _ _ _ _ _ _ _ _ _ _ _ _ _
      | exact heb_ToDay.mono _ _ _ _ _
      | exact LeO.none _
      | refine LeO.ite ?_ ?_
      | refine LeO.bind ?_ (fun _ => ?_)
set_option maxHeartbeats 8000000 in
set_option maxRecDepth 100000 in
theorem feast_Of.calls (k : Nat) (a0 : Int) (a1 : Int) (r1 : List (S48)) (r2 : Int) (w : World) (HGT : GlobT w) (h : feast_Of.f k a0 a1 = some (r1, r2)) :
    Calls Tryd.prog 33 #[.int .i64 a0, .int .i64 a1] w fun e w' => ∃ v0_ : Value, e = .returned (.tuple #[v0_, .int .i64 r2]) ∧ Kd.R k48 48 w' w.heap.size (fun _ => True) v0_ r1 ∧ Below w.heap.size w w' := by
  have hu84 := Tryd.underlying84
  have hu23 := Tryd.underlying23
  have hu77 := Tryd.underlying77
  have hu48 := Tryd.underlying48
  have HB := Aside0.mk (Below.refl w.heap.size w)
  have H : (if a1 = 0 then (feast_Of.j0 k a0 a1 false) else (feast_Of.j0 k a0 a1 (a1 != 1))) = some (r1, r2) := h
  clear h
  have HC3 := Aside0.mk H
  clear H
  go_enter Tryd.func33, Tryd.ntmps33
  go_upto_region 1 with (fail)
  repeat (go_quiet (fail); go_upto_region 1 with (fail))
  go_cut [14] (fun v14 wc => ∃ (kq : Nat) (x14_2 : Bool), v14 = .bool x14_2 ∧ Aside0 (feast_Of.j0 kq a0 a1 x14_2 = some (r1, r2)) ∧ Aside0 (kq ≤ k) ∧ Aside0 (Below w.heap.size w wc))
  case first =>
    have H := HC3.out
    clear HC3
    by_cases c4 : a1 = 0
    · rw [if_pos c4] at H
      have c4b0 : (a1 == 0) = true := beq_iff_eq.mpr c4
      have c4b1 : (a1 != 0) = false := bne_eq_false_iff_eq.mpr c4
      clear c4
      (first | rw [c4b0] | (simp only [i64_w, i32_w]; rw [c4b0]) | skip)
      have H' := Aside0.mk H
      clear H
      go_wp2
      repeat (go_quiet (fail); try go_wp2)
      go_meet
      case rel => exact ⟨_, (false), (by first | rfl | (simp; done) | (simp [*]; done)), H', ⟨by first | omega | exact Nat.le_refl _⟩, ⟨by repeat (first | (with_reducible first | exact HB.out | apply below_alloc | apply pw_below_drewN | apply below_drew1) | exact HB.out)⟩⟩
    · rw [if_neg c4] at H
      have c4b0 : (a1 == 0) = false := beq_eq_false_iff_ne.mpr c4
      have c4b1 : (a1 != 0) = true := bne_iff_ne.mpr c4
      (first | rw [c4b0] | (simp only [i64_w, i32_w]; rw [c4b0]) | skip)
      have H' := Aside0.mk H
      clear H
      go_wp2
      repeat (go_quiet (fail); try go_wp2)
      go_meet
      case rel => exact ⟨_, ((a1 != 1)), (by first | rfl | (simp; done) | (simp [*]; done)), H', ⟨by first | omega | exact Nat.le_refl _⟩, ⟨by repeat (first | (with_reducible first | exact HB.out | apply below_alloc | apply pw_below_drewN | apply below_drew1) | exact HB.out)⟩⟩
  case rest =>
    clear HC3
    try clear p2
    try clear c3
    try clear c4
    try clear c4b0
    try clear c4b1
    obtain ⟨kq, x14_2, rfl, HA, HJ2, HB⟩ := hcut
    cases kq with
    | zero => exact absurd HA.out (by simp [feast_Of.j0])
    | succ kj2 =>
      have H := HA.out
      clear HA
      simp only [feast_Of.j0] at H
      by_cases c5 : x14_2 = true
      · subst c5
        have H1 : (some (([] : List (S48)), 1)) = some (r1, r2) := by rw [if_pos rfl] at H; exact H
        clear H
        have H := H1
        clear H1
        simp only [Option.some.injEq, Prod.mk.injEq] at H
        obtain ⟨rfl, rfl⟩ := H
        go_wp2
        repeat (go_quiet (fail); try go_wp2)
        go_ret2
        exact ⟨_, by first | rfl | (simp [errW_none, errW_some] <;> rfl) | (simp [*, errW_none, errW_some] <;> rfl), by first | exact Kd.R_nil _ _ _ _ _ | exact Kd.N_nil _ _ _ _ _ | exact Kd.V_nil _ _ _ _ _ | exact Kd.Q_nil _ _ _ _ _ | exact Kd.S_nil _ _ _ _ _, by repeat (first | (with_reducible first | exact HB.out | apply below_alloc | apply pw_below_drewN | apply below_drew1) | exact HB.out)⟩
      · replace c5 := Bool.eq_false_iff.mpr c5
        subst c5
        have H1 : (if a0 < 1 then (some (([] : List (S48)), 2)) else (if a0 > 9999 then (some (([] : List (S48)), 2)) else ((feast_rows.f).bind fun t230 => (feast_Of.l0 kj2 a0 a1 ([] : List (S48)) t230 (t230.length : Int) 0)))) = some (r1, r2) := by rw [if_neg (show ¬ (false = true) by decide)] at H; exact H
        clear H
        have H := H1
        clear H1
        by_cases c6 : a0 < 1
        · rw [if_pos c6] at H
          have c6b0 : decide (a0 < 1) = true := decide_eq_true c6
          clear c6
          simp only [Option.some.injEq, Prod.mk.injEq] at H
          obtain ⟨rfl, rfl⟩ := H
          go_wp2
          repeat (go_quiet (fail); try go_wp2)
          go_ret2
          exact ⟨_, by first | rfl | (simp [errW_none, errW_some] <;> rfl) | (simp [*, errW_none, errW_some] <;> rfl), by first | exact Kd.R_nil _ _ _ _ _ | exact Kd.N_nil _ _ _ _ _ | exact Kd.V_nil _ _ _ _ _ | exact Kd.Q_nil _ _ _ _ _ | exact Kd.S_nil _ _ _ _ _, by repeat (first | (with_reducible first | exact HB.out | apply below_alloc | apply pw_below_drewN | apply below_drew1) | exact HB.out)⟩
        · rw [if_neg c6] at H
          have c6b0 : decide (a0 < 1) = false := decide_eq_false c6
          clear c6
          by_cases c7 : a0 > 9999
          · rw [if_pos c7] at H
            have c7b0 : decide (9999 < a0) = true := decide_eq_true c7
            clear c7
            simp only [Option.some.injEq, Prod.mk.injEq] at H
            obtain ⟨rfl, rfl⟩ := H
            go_wp2
            repeat (go_quiet (fail); try go_wp2)
            go_ret2
            exact ⟨_, by first | rfl | (simp [errW_none, errW_some] <;> rfl) | (simp [*, errW_none, errW_some] <;> rfl), by first | exact Kd.R_nil _ _ _ _ _ | exact Kd.N_nil _ _ _ _ _ | exact Kd.V_nil _ _ _ _ _ | exact Kd.Q_nil _ _ _ _ _ | exact Kd.S_nil _ _ _ _ _, by repeat (first | (with_reducible first | exact HB.out | apply below_alloc | apply pw_below_drewN | apply below_drew1) | exact HB.out)⟩
          · rw [if_neg c7] at H
            have c7b0 : decide (9999 < a0) = false := decide_eq_false c7
            clear c7
            replace H := Option.bind_eq_some_iff.mp H
            obtain ⟨t230, A80, H⟩ := H
            replace H : (feast_Of.l0 kj2 a0 a1 ([] : List (S48)) t230 (t230.length : Int) 0) = some (r1, r2) := H
            have A8 := Aside0.mk A80
            clear A80
            have H' := Aside0.mk H
            clear H
            go_wp2_with (first | (go_at_call 57; (with_reducible refine (feast_rows.calls  t230 _ A8.out).mono ?_); rintro e w9 ⟨v231, rfl, ho0, hb⟩; have n0_ := Aside0.mk (Kd.R_lower ho0 (below_size (by repeat (first | (with_reducible first | exact HB.out | apply below_alloc | apply pw_below_drewN | apply below_drew1) | exact HB.out)))); have n1_ := Aside0.mk (below_step (by repeat (first | (with_reducible first | exact HB.out | apply below_alloc | apply pw_below_drewN | apply below_drew1) | exact HB.out)) hb); clear HB; have HO232 := n0_; have HB := n1_; clear n0_ n1_; (try clear hb); (try clear hb2); (try clear hk); (try clear hi); (try clear ho0); obtain ⟨Ao10, co10, eo10⟩ := Kd.R_slice HO232.out; subst eo10))
            repeat (go_quiet (first | (go_at_call 57; (with_reducible refine (feast_rows.calls  t230 _ A8.out).mono ?_); rintro e w9 ⟨v231, rfl, ho0, hb⟩; have n0_ := Aside0.mk (Kd.R_lower ho0 (below_size (by repeat (first | (with_reducible first | exact HB.out | apply below_alloc | apply pw_below_drewN | apply below_drew1) | exact HB.out)))); have n1_ := Aside0.mk (below_step (by repeat (first | (with_reducible first | exact HB.out | apply below_alloc | apply pw_below_drewN | apply below_drew1) | exact HB.out)) hb); clear HB; have HO232 := n0_; have HB := n1_; clear n0_ n1_; (try clear hb); (try clear hb2); (try clear hk); (try clear hi); (try clear ho0); obtain ⟨Ao10, co10, eo10⟩ := Kd.R_slice HO232.out; subst eo10)); try go_wp2_with (first | (go_at_call 57; (with_reducible refine (feast_rows.calls  t230 _ A8.out).mono ?_); rintro e w9 ⟨v231, rfl, ho0, hb⟩; have n0_ := Aside0.mk (Kd.R_lower ho0 (below_size (by repeat (first | (with_reducible first | exact HB.out | apply below_alloc | apply pw_below_drewN | apply below_drew1) | exact HB.out)))); have n1_ := Aside0.mk (below_step (by repeat (first | (with_reducible first | exact HB.out | apply below_alloc | apply pw_below_drewN | apply below_drew1) | exact HB.out)) hb); clear HB; have HO232 := n0_; have HB := n1_; clear n0_ n1_; (try clear hb); (try clear hb2); (try clear hk); (try clear hi); (try clear ho0); obtain ⟨Ao10, co10, eo10⟩ := Kd.R_slice HO232.out; subst eo10)))
            go_loopg [6, 30] kj2 (fun kq v6 v30 w' => ∃ (x6_2 : List (S48)) (x30_2 : Int), v30 = .int .i64 x30_2 ∧ Aside0 (feast_Of.l0 kq a0 a1 x6_2 t230 (t230.length : Int) x30_2 = some (r1, r2)) ∧ Aside0 (kq ≤ kj2) ∧ Aside0 (Kd.R k48 48 w' w.heap.size (fun _ => True) v6 x6_2) ∧ Aside0 (Kd.R k84 84 w' w.heap.size (fun _ => True) (.slice Ao10 t230.length co10) t230) ∧ Aside0 (Below w.heap.size w w'))
            case atStart => exact ⟨(([] : List (S48))), (0), (by first | rfl | (simp; done) | (simp [*]; done)), H', ⟨Nat.le_refl _⟩, ⟨by first | exact Kd.R_nil _ _ _ _ _ | exact Kd.N_nil _ _ _ _ _ | exact Kd.V_nil _ _ _ _ _ | exact Kd.Q_nil _ _ _ _ _ | exact Kd.S_nil _ _ _ _ _⟩, ⟨by (with_reducible repeat (first | apply Kd.R_alloc | apply Kd.R_drewN | apply Kd.R_drew)); exact HO232.out⟩, ⟨by repeat (first | (with_reducible first | exact HB.out | apply below_alloc | apply pw_below_drewN | apply below_drew1) | exact HB.out)⟩⟩
            case round =>
              clear H'
              try clear p2
              try clear c3
              try clear c4
              try clear c4b0
              try clear c4b1
              try clear c5
              try clear c6
              try clear c6b0
              try clear c7
              try clear c7b0
              try clear p2
              obtain ⟨x6_2, x30_2, rfl, HA, HK2, HO_6, HO_28, HB⟩ := hrel
              cases gk with
              | zero => exact absurd HA.out (by simp [feast_Of.l0])
              | succ k2 =>
                have H := HA.out
                clear HA
                simp only [feast_Of.l0] at H
                by_cases c11 : x30_2 < (t230.length : Int)
                · rw [if_pos c11] at H
                  have c11b0 : decide (x30_2 < (t230.length : Int)) = true := decide_eq_true c11
                  clear c11
                  by_cases c12 : 0 ≤ x30_2
                  · rw [if_pos c12] at H
                    have c12b0 : decide (0 ≤ x30_2) = true := decide_eq_true c12
                    clear c12
                    by_cases c13 : x30_2 < (t230.length : Int)
                    · rw [if_pos c13] at H
                      have c13b0 : decide (x30_2 < (t230.length : Int)) = true := decide_eq_true c13
                      clear c13
                      have HC14 := Aside0.mk H
                      clear H
                      have p236 : 0 ≤ (x30_2 : Int) := of_decide_eq_true (by first | (with_reducible assumption) | assumption)
                      have q236 : x30_2 < (t230.length : Int) := of_decide_eq_true (by first | (with_reducible assumption) | assumption)
                      obtain ⟨ad236, e236, hx236_0, hx236_1, hx236_2, hx236_3, hx236_4, hx236_5, hx236_6⟩ := at_T84 (Kd.R_reads' HO_28.out).2.2 x30_2 p236 q236
                      cases e236
                      replace p236 := eq_true p236
                      replace q236 := eq_true q236
                      go_upto_if 39 with (first | ((with_reducible refine gate_dst (N := 8) rfl ?_); refine box_event ?hg (N := 8) ?hd (cs := #[.int .i64 0, .int .i64 0, .bool false, .int .i64 0, .int .i64 0, .int .i64 0, .int .i64 0]) (t := 84) ?hr ?_; (case hd => rfl); (case hg => rfl); (case hr => first | (go_simp; done) | (go_simp; rfl)); intro gb237 hg w15 hbox hb; have n0_ := Aside0.mk (Kd.R_below (by (with_reducible repeat (first | apply Kd.R_alloc | apply Kd.R_drewN | apply Kd.R_drew)); exact HO_6.out) hb); have n1_ := Aside0.mk (Kd.R_below (Kd.R_elderB (by (with_reducible repeat (first | apply Kd.R_alloc | apply Kd.R_drewN | apply Kd.R_drew)); exact HO_28.out) gb237 (Nat.le_of_eq hg.symm)) hb); have n2_ := Aside0.mk (below_step (by repeat (first | (with_reducible first | exact HB.out | apply below_alloc | apply pw_below_drewN | apply below_drew1) | exact HB.out)) hb); have n3_ := Aside0.mk (hbox); have n4_ := Aside0.mk ((by rw [hg]; exact (below_size (by repeat (first | (with_reducible first | exact HB.out | apply below_alloc | apply pw_below_drewN | apply below_drew1) | exact HB.out))) : w.heap.size ≤ gb237)); have n5_ := Aside0.mk ((by rw [hg]; exact (below_size (by repeat (first | (with_reducible first | exact HB.out | apply below_alloc | apply pw_below_drewN | apply below_drew1) | exact HB.out))) : w.heap.size ≤ gb237)); clear HO_6; clear HO_28; clear HB; have HO_6 := n0_; have HO_28 := n1_; have HB := n2_; have BK237 := n3_; have GW237 := n4_; have GE237 := n5_; clear n0_ n1_ n2_ n3_ n4_ n5_; clear hb hbox hg; have hcz16_0 : w15.cell? ⟨gb237, 0, none⟩ = some (.int .i64 0) := (blk_cell BK237.out 0).trans rfl; have hcz16_1 : w15.cell? ⟨gb237, 1, none⟩ = some (.int .i64 0) := (blk_cell BK237.out 1).trans rfl; have hcz16_2 : w15.cell? ⟨gb237, 2, none⟩ = some (.bool false) := (blk_cell BK237.out 2).trans rfl; have hcz16_3 : w15.cell? ⟨gb237, 3, none⟩ = some (.int .i64 0) := (blk_cell BK237.out 3).trans rfl; have hcz16_4 : w15.cell? ⟨gb237, 4, none⟩ = some (.int .i64 0) := (blk_cell BK237.out 4).trans rfl; have hcz16_5 : w15.cell? ⟨gb237, 5, none⟩ = some (.int .i64 0) := (blk_cell BK237.out 5).trans rfl; have hcz16_6 : w15.cell? ⟨gb237, 6, none⟩ = some (.int .i64 0) := (blk_cell BK237.out 6).trans rfl; have hfz16_0 := blk_frozen BK237.out 0; have hfz16_1 := blk_frozen BK237.out 1; have hfz16_2 := blk_frozen BK237.out 2; have hfz16_3 := blk_frozen BK237.out 3; have hfz16_4 := blk_frozen BK237.out 4; have hfz16_5 := blk_frozen BK237.out 5; have hfz16_6 := blk_frozen BK237.out 6))
                      repeat (go_quiet (first | ((with_reducible refine gate_dst (N := 8) rfl ?_); refine box_event ?hg (N := 8) ?hd (cs := #[.int .i64 0, .int .i64 0, .bool false, .int .i64 0, .int .i64 0, .int .i64 0, .int .i64 0]) (t := 84) ?hr ?_; (case hd => rfl); (case hg => rfl); (case hr => first | (go_simp; done) | (go_simp; rfl)); intro gb237 hg w15 hbox hb; have n0_ := Aside0.mk (Kd.R_below (by (with_reducible repeat (first | apply Kd.R_alloc | apply Kd.R_drewN | apply Kd.R_drew)); exact HO_6.out) hb); have n1_ := Aside0.mk (Kd.R_below (Kd.R_elderB (by (with_reducible repeat (first | apply Kd.R_alloc | apply Kd.R_drewN | apply Kd.R_drew)); exact HO_28.out) gb237 (Nat.le_of_eq hg.symm)) hb); have n2_ := Aside0.mk (below_step (by repeat (first | (with_reducible first | exact HB.out | apply below_alloc | apply pw_below_drewN | apply below_drew1) | exact HB.out)) hb); have n3_ := Aside0.mk (hbox); have n4_ := Aside0.mk ((by rw [hg]; exact (below_size (by repeat (first | (with_reducible first | exact HB.out | apply below_alloc | apply pw_below_drewN | apply below_drew1) | exact HB.out))) : w.heap.size ≤ gb237)); have n5_ := Aside0.mk ((by rw [hg]; exact (below_size (by repeat (first | (with_reducible first | exact HB.out | apply below_alloc | apply pw_below_drewN | apply below_drew1) | exact HB.out))) : w.heap.size ≤ gb237)); clear HO_6; clear HO_28; clear HB; have HO_6 := n0_; have HO_28 := n1_; have HB := n2_; have BK237 := n3_; have GW237 := n4_; have GE237 := n5_; clear n0_ n1_ n2_ n3_ n4_ n5_; clear hb hbox hg; have hcz16_0 : w15.cell? ⟨gb237, 0, none⟩ = some (.int .i64 0) := (blk_cell BK237.out 0).trans rfl; have hcz16_1 : w15.cell? ⟨gb237, 1, none⟩ = some (.int .i64 0) := (blk_cell BK237.out 1).trans rfl; have hcz16_2 : w15.cell? ⟨gb237, 2, none⟩ = some (.bool false) := (blk_cell BK237.out 2).trans rfl; have hcz16_3 : w15.cell? ⟨gb237, 3, none⟩ = some (.int .i64 0) := (blk_cell BK237.out 3).trans rfl; have hcz16_4 : w15.cell? ⟨gb237, 4, none⟩ = some (.int .i64 0) := (blk_cell BK237.out 4).trans rfl; have hcz16_5 : w15.cell? ⟨gb237, 5, none⟩ = some (.int .i64 0) := (blk_cell BK237.out 5).trans rfl; have hcz16_6 : w15.cell? ⟨gb237, 6, none⟩ = some (.int .i64 0) := (blk_cell BK237.out 6).trans rfl; have hfz16_0 := blk_frozen BK237.out 0; have hfz16_1 := blk_frozen BK237.out 1; have hfz16_2 := blk_frozen BK237.out 2; have hfz16_3 := blk_frozen BK237.out 3; have hfz16_4 := blk_frozen BK237.out 4; have hfz16_5 := blk_frozen BK237.out 5; have hfz16_6 := blk_frozen BK237.out 6)); go_upto_if 39 with (first | ((with_reducible refine gate_dst (N := 8) rfl ?_); refine box_event ?hg (N := 8) ?hd (cs := #[.int .i64 0, .int .i64 0, .bool false, .int .i64 0, .int .i64 0, .int .i64 0, .int .i64 0]) (t := 84) ?hr ?_; (case hd => rfl); (case hg => rfl); (case hr => first | (go_simp; done) | (go_simp; rfl)); intro gb237 hg w15 hbox hb; have n0_ := Aside0.mk (Kd.R_below (by (with_reducible repeat (first | apply Kd.R_alloc | apply Kd.R_drewN | apply Kd.R_drew)); exact HO_6.out) hb); have n1_ := Aside0.mk (Kd.R_below (Kd.R_elderB (by (with_reducible repeat (first | apply Kd.R_alloc | apply Kd.R_drewN | apply Kd.R_drew)); exact HO_28.out) gb237 (Nat.le_of_eq hg.symm)) hb); have n2_ := Aside0.mk (below_step (by repeat (first | (with_reducible first | exact HB.out | apply below_alloc | apply pw_below_drewN | apply below_drew1) | exact HB.out)) hb); have n3_ := Aside0.mk (hbox); have n4_ := Aside0.mk ((by rw [hg]; exact (below_size (by repeat (first | (with_reducible first | exact HB.out | apply below_alloc | apply pw_below_drewN | apply below_drew1) | exact HB.out))) : w.heap.size ≤ gb237)); have n5_ := Aside0.mk ((by rw [hg]; exact (below_size (by repeat (first | (with_reducible first | exact HB.out | apply below_alloc | apply pw_below_drewN | apply below_drew1) | exact HB.out))) : w.heap.size ≤ gb237)); clear HO_6; clear HO_28; clear HB; have HO_6 := n0_; have HO_28 := n1_; have HB := n2_; have BK237 := n3_; have GW237 := n4_; have GE237 := n5_; clear n0_ n1_ n2_ n3_ n4_ n5_; clear hb hbox hg; have hcz16_0 : w15.cell? ⟨gb237, 0, none⟩ = some (.int .i64 0) := (blk_cell BK237.out 0).trans rfl; have hcz16_1 : w15.cell? ⟨gb237, 1, none⟩ = some (.int .i64 0) := (blk_cell BK237.out 1).trans rfl; have hcz16_2 : w15.cell? ⟨gb237, 2, none⟩ = some (.bool false) := (blk_cell BK237.out 2).trans rfl; have hcz16_3 : w15.cell? ⟨gb237, 3, none⟩ = some (.int .i64 0) := (blk_cell BK237.out 3).trans rfl; have hcz16_4 : w15.cell? ⟨gb237, 4, none⟩ = some (.int .i64 0) := (blk_cell BK237.out 4).trans rfl; have hcz16_5 : w15.cell? ⟨gb237, 5, none⟩ = some (.int .i64 0) := (blk_cell BK237.out 5).trans rfl; have hcz16_6 : w15.cell? ⟨gb237, 6, none⟩ = some (.int .i64 0) := (blk_cell BK237.out 6).trans rfl; have hfz16_0 := blk_frozen BK237.out 0; have hfz16_1 := blk_frozen BK237.out 1; have hfz16_2 := blk_frozen BK237.out 2; have hfz16_3 := blk_frozen BK237.out 3; have hfz16_4 := blk_frozen BK237.out 4; have hfz16_5 := blk_frozen BK237.out 5; have hfz16_6 := blk_frozen BK237.out 6)))
                      (try simp only [Act.put, List.setIfInBounds_toArray, List.set_cons_zero, List.set_cons_succ])
                      go_cut [9, 10] (fun v9 v10 wc => ∃ (kq : Nat) (x9_13 : Int) (x10_13 : Int), v9 = .int .i64 x9_13 ∧ v10 = .int .i64 x10_13 ∧ Aside0 (feast_Of.j2 kq a0 a1 x6_2 x9_13 x10_13 t230 (t230.length : Int) x30_2 ((rd_T84 t230 x30_2).f0) ((rd_T84 t230 x30_2).f1.f0) ((rd_T84 t230 x30_2).f1.f1) ((rd_T84 t230 x30_2).f2) ((rd_T84 t230 x30_2).f3) ((rd_T84 t230 x30_2).f4) ((rd_T84 t230 x30_2).f5) = some (r1, r2)) ∧ Aside0 (kq ≤ k2) ∧ Aside0 (Kd.R k48 48 wc w.heap.size (fun _ => True) u6 x6_2) ∧ Aside0 (Kd.R k84 84 wc w.heap.size (fun k_ => k_ ≠ gb237) (.slice (some ad236) t230.length co10) t230) ∧ Aside0 (wc.heap[gb237]? = some (.cells #[.int .i64 ((rd_T84 t230 x30_2).f0), .int .i64 ((rd_T84 t230 x30_2).f1.f0), .bool ((rd_T84 t230 x30_2).f1.f1), .int .i64 ((rd_T84 t230 x30_2).f2), .int .i64 ((rd_T84 t230 x30_2).f3), .int .i64 ((rd_T84 t230 x30_2).f4), .int .i64 ((rd_T84 t230 x30_2).f5)] 84 (0, 0))) ∧ Aside0 (Below w.heap.size w wc))
                      case first =>
                        have H := HC14.out
                        clear HC14
                        by_cases c17 : a1 = 1
                        · rw [if_pos c17] at H
                          have c17b0 : (a1 == 1) = true := beq_iff_eq.mpr c17
                          have c17b1 : (a1 != 1) = false := bne_eq_false_iff_eq.mpr c17
                          clear c17
                          (first | rw [c17b0] | (simp only [i64_w, i32_w]; rw [c17b0]) | skip)
                          have H' := Aside0.mk H
                          clear H
                          have hcz18_0 : w15.cell? ⟨gb237, 0, none⟩ = some (.int .i64 0) := (blk_cell BK237.out 0).trans rfl
                          have hcz18_1 : w15.cell? ⟨gb237, 1, none⟩ = some (.int .i64 0) := (blk_cell BK237.out 1).trans rfl
                          have hcz18_2 : w15.cell? ⟨gb237, 2, none⟩ = some (.bool false) := (blk_cell BK237.out 2).trans rfl
                          have hcz18_3 : w15.cell? ⟨gb237, 3, none⟩ = some (.int .i64 0) := (blk_cell BK237.out 3).trans rfl
                          have hcz18_4 : w15.cell? ⟨gb237, 4, none⟩ = some (.int .i64 0) := (blk_cell BK237.out 4).trans rfl
                          have hcz18_5 : w15.cell? ⟨gb237, 5, none⟩ = some (.int .i64 0) := (blk_cell BK237.out 5).trans rfl
                          have hcz18_6 : w15.cell? ⟨gb237, 6, none⟩ = some (.int .i64 0) := (blk_cell BK237.out 6).trans rfl
                          have hfz18_0 := blk_frozen BK237.out 0
                          have hfz18_1 := blk_frozen BK237.out 1
                          have hfz18_2 := blk_frozen BK237.out 2
                          have hfz18_3 := blk_frozen BK237.out 3
                          have hfz18_4 := blk_frozen BK237.out 4
                          have hfz18_5 := blk_frozen BK237.out 5
                          have hfz18_6 := blk_frozen BK237.out 6
                          go_wp2
                          repeat (go_quiet (fail); try go_wp2)
                          go_meet
                          case rel => exact ⟨_, ((rd_T84 t230 x30_2).f4), ((rd_T84 t230 x30_2).f5), (by first | rfl | (simp; done) | (simp [*]; done)), (by first | rfl | (simp; done) | (simp [*]; done)), H', ⟨by have := HJ2.out; have := HK2.out; first | omega | exact Nat.le_refl _⟩, ⟨by (with_reducible repeat (first | apply Kd.R_alloc | apply Kd.R_drewN | apply Kd.R_drew)); exact Kd.R_mono (Kd.R_far (p := ⟨gb237, 6, none⟩) (Kd.R_far (p := ⟨gb237, 5, none⟩) (Kd.R_far (p := ⟨gb237, 4, none⟩) (Kd.R_far (p := ⟨gb237, 3, none⟩) (Kd.R_far (p := ⟨gb237, 2, none⟩) (Kd.R_far (p := ⟨gb237, 1, none⟩) (Kd.R_far (p := ⟨gb237, 0, none⟩) (Kd.R_types HO_6.out BK237.out (by decide)) (fun _ hk => hk.2) (.int .i64 ((rd_T84 t230 x30_2).f0))) (fun _ hk => hk.2) (.int .i64 ((rd_T84 t230 x30_2).f1.f0))) (fun _ hk => hk.2) (.bool ((rd_T84 t230 x30_2).f1.f1))) (fun _ hk => hk.2) (.int .i64 ((rd_T84 t230 x30_2).f2))) (fun _ hk => hk.2) (.int .i64 ((rd_T84 t230 x30_2).f3))) (fun _ hk => hk.2) (.int .i64 ((rd_T84 t230 x30_2).f4))) (fun _ hk => hk.2) (.int .i64 ((rd_T84 t230 x30_2).f5))) (fun _ hk => trivial)⟩, ⟨by (with_reducible repeat (first | apply Kd.R_alloc | apply Kd.R_drewN | apply Kd.R_drew)); exact Kd.R_mono (Kd.R_far (p := ⟨gb237, 6, none⟩) (Kd.R_far (p := ⟨gb237, 5, none⟩) (Kd.R_far (p := ⟨gb237, 4, none⟩) (Kd.R_far (p := ⟨gb237, 3, none⟩) (Kd.R_far (p := ⟨gb237, 2, none⟩) (Kd.R_far (p := ⟨gb237, 1, none⟩) (Kd.R_far (p := ⟨gb237, 0, none⟩) (Kd.R_mono HO_28.out (fun k_ hk => (⟨hk, hk.2⟩ : _ ∧ k_ ≠ gb237))) (fun _ hk => hk.2) (.int .i64 ((rd_T84 t230 x30_2).f0))) (fun _ hk => hk.2) (.int .i64 ((rd_T84 t230 x30_2).f1.f0))) (fun _ hk => hk.2) (.bool ((rd_T84 t230 x30_2).f1.f1))) (fun _ hk => hk.2) (.int .i64 ((rd_T84 t230 x30_2).f2))) (fun _ hk => hk.2) (.int .i64 ((rd_T84 t230 x30_2).f3))) (fun _ hk => hk.2) (.int .i64 ((rd_T84 t230 x30_2).f4))) (fun _ hk => hk.2) (.int .i64 ((rd_T84 t230 x30_2).f5))) (fun _ hk => hk.1.2)⟩, ⟨by (with_reducible repeat (first | refine blk_drewN ?_ _ | refine blk_drew ?_ | refine blk_alloc ?_ _)); refine blk_put (cs := #[.int .i64 ((rd_T84 t230 x30_2).f0), .int .i64 ((rd_T84 t230 x30_2).f1.f0), .bool ((rd_T84 t230 x30_2).f1.f1), .int .i64 ((rd_T84 t230 x30_2).f2), .int .i64 ((rd_T84 t230 x30_2).f3), .int .i64 ((rd_T84 t230 x30_2).f4), .int .i64 0]) ?_ 6 _ rfl; (with_reducible repeat (first | refine blk_drewN ?_ _ | refine blk_drew ?_ | refine blk_alloc ?_ _)); refine blk_put (cs := #[.int .i64 ((rd_T84 t230 x30_2).f0), .int .i64 ((rd_T84 t230 x30_2).f1.f0), .bool ((rd_T84 t230 x30_2).f1.f1), .int .i64 ((rd_T84 t230 x30_2).f2), .int .i64 ((rd_T84 t230 x30_2).f3), .int .i64 0, .int .i64 0]) ?_ 5 _ rfl; (with_reducible repeat (first | refine blk_drewN ?_ _ | refine blk_drew ?_ | refine blk_alloc ?_ _)); refine blk_put (cs := #[.int .i64 ((rd_T84 t230 x30_2).f0), .int .i64 ((rd_T84 t230 x30_2).f1.f0), .bool ((rd_T84 t230 x30_2).f1.f1), .int .i64 ((rd_T84 t230 x30_2).f2), .int .i64 0, .int .i64 0, .int .i64 0]) ?_ 4 _ rfl; (with_reducible repeat (first | refine blk_drewN ?_ _ | refine blk_drew ?_ | refine blk_alloc ?_ _)); refine blk_put (cs := #[.int .i64 ((rd_T84 t230 x30_2).f0), .int .i64 ((rd_T84 t230 x30_2).f1.f0), .bool ((rd_T84 t230 x30_2).f1.f1), .int .i64 0, .int .i64 0, .int .i64 0, .int .i64 0]) ?_ 3 _ rfl; (with_reducible repeat (first | refine blk_drewN ?_ _ | refine blk_drew ?_ | refine blk_alloc ?_ _)); refine blk_put (cs := #[.int .i64 ((rd_T84 t230 x30_2).f0), .int .i64 ((rd_T84 t230 x30_2).f1.f0), .bool false, .int .i64 0, .int .i64 0, .int .i64 0, .int .i64 0]) ?_ 2 _ rfl; (with_reducible repeat (first | refine blk_drewN ?_ _ | refine blk_drew ?_ | refine blk_alloc ?_ _)); refine blk_put (cs := #[.int .i64 ((rd_T84 t230 x30_2).f0), .int .i64 0, .bool false, .int .i64 0, .int .i64 0, .int .i64 0, .int .i64 0]) ?_ 1 _ rfl; (with_reducible repeat (first | refine blk_drewN ?_ _ | refine blk_drew ?_ | refine blk_alloc ?_ _)); refine blk_put (cs := #[.int .i64 0, .int .i64 0, .bool false, .int .i64 0, .int .i64 0, .int .i64 0, .int .i64 0]) ?_ 0 _ rfl; (with_reducible repeat (first | refine blk_drewN ?_ _ | refine blk_drew ?_ | refine blk_alloc ?_ _)); exact BK237.out⟩, ⟨by repeat (first | (with_reducible first | exact HB.out | apply below_alloc | apply pw_below_drewN | apply below_drew1 | refine below_set ?_ GE237.out) | exact HB.out)⟩⟩
                        · rw [if_neg c17] at H
                          have c17b0 : (a1 == 1) = false := beq_eq_false_iff_ne.mpr c17
                          have c17b1 : (a1 != 1) = true := bne_iff_ne.mpr c17
                          (first | rw [c17b0] | (simp only [i64_w, i32_w]; rw [c17b0]) | skip)
                          have H' := Aside0.mk H
                          clear H
                          go_wp2
                          repeat (go_quiet (fail); try go_wp2)
                          go_meet
                          case rel => exact ⟨_, ((rd_T84 t230 x30_2).f2), ((rd_T84 t230 x30_2).f3), (by first | rfl | (simp; done) | (simp [*]; done)), (by first | rfl | (simp; done) | (simp [*]; done)), H', ⟨by have := HJ2.out; have := HK2.out; first | omega | exact Nat.le_refl _⟩, ⟨by (with_reducible repeat (first | apply Kd.R_alloc | apply Kd.R_drewN | apply Kd.R_drew)); exact Kd.R_mono (Kd.R_far (p := ⟨gb237, 6, none⟩) (Kd.R_far (p := ⟨gb237, 5, none⟩) (Kd.R_far (p := ⟨gb237, 4, none⟩) (Kd.R_far (p := ⟨gb237, 3, none⟩) (Kd.R_far (p := ⟨gb237, 2, none⟩) (Kd.R_far (p := ⟨gb237, 1, none⟩) (Kd.R_far (p := ⟨gb237, 0, none⟩) (Kd.R_types HO_6.out BK237.out (by decide)) (fun _ hk => hk.2) (.int .i64 ((rd_T84 t230 x30_2).f0))) (fun _ hk => hk.2) (.int .i64 ((rd_T84 t230 x30_2).f1.f0))) (fun _ hk => hk.2) (.bool ((rd_T84 t230 x30_2).f1.f1))) (fun _ hk => hk.2) (.int .i64 ((rd_T84 t230 x30_2).f2))) (fun _ hk => hk.2) (.int .i64 ((rd_T84 t230 x30_2).f3))) (fun _ hk => hk.2) (.int .i64 ((rd_T84 t230 x30_2).f4))) (fun _ hk => hk.2) (.int .i64 ((rd_T84 t230 x30_2).f5))) (fun _ hk => trivial)⟩, ⟨by (with_reducible repeat (first | apply Kd.R_alloc | apply Kd.R_drewN | apply Kd.R_drew)); exact Kd.R_mono (Kd.R_far (p := ⟨gb237, 6, none⟩) (Kd.R_far (p := ⟨gb237, 5, none⟩) (Kd.R_far (p := ⟨gb237, 4, none⟩) (Kd.R_far (p := ⟨gb237, 3, none⟩) (Kd.R_far (p := ⟨gb237, 2, none⟩) (Kd.R_far (p := ⟨gb237, 1, none⟩) (Kd.R_far (p := ⟨gb237, 0, none⟩) (Kd.R_mono HO_28.out (fun k_ hk => (⟨hk, hk.2⟩ : _ ∧ k_ ≠ gb237))) (fun _ hk => hk.2) (.int .i64 ((rd_T84 t230 x30_2).f0))) (fun _ hk => hk.2) (.int .i64 ((rd_T84 t230 x30_2).f1.f0))) (fun _ hk => hk.2) (.bool ((rd_T84 t230 x30_2).f1.f1))) (fun _ hk => hk.2) (.int .i64 ((rd_T84 t230 x30_2).f2))) (fun _ hk => hk.2) (.int .i64 ((rd_T84 t230 x30_2).f3))) (fun _ hk => hk.2) (.int .i64 ((rd_T84 t230 x30_2).f4))) (fun _ hk => hk.2) (.int .i64 ((rd_T84 t230 x30_2).f5))) (fun _ hk => hk.1.2)⟩, ⟨by (with_reducible repeat (first | refine blk_drewN ?_ _ | refine blk_drew ?_ | refine blk_alloc ?_ _)); refine blk_put (cs := #[.int .i64 ((rd_T84 t230 x30_2).f0), .int .i64 ((rd_T84 t230 x30_2).f1.f0), .bool ((rd_T84 t230 x30_2).f1.f1), .int .i64 ((rd_T84 t230 x30_2).f2), .int .i64 ((rd_T84 t230 x30_2).f3), .int .i64 ((rd_T84 t230 x30_2).f4), .int .i64 0]) ?_ 6 _ rfl; (with_reducible repeat (first | refine blk_drewN ?_ _ | refine blk_drew ?_ | refine blk_alloc ?_ _)); refine blk_put (cs := #[.int .i64 ((rd_T84 t230 x30_2).f0), .int .i64 ((rd_T84 t230 x30_2).f1.f0), .bool ((rd_T84 t230 x30_2).f1.f1), .int .i64 ((rd_T84 t230 x30_2).f2), .int .i64 ((rd_T84 t230 x30_2).f3), .int .i64 0, .int .i64 0]) ?_ 5 _ rfl; (with_reducible repeat (first | refine blk_drewN ?_ _ | refine blk_drew ?_ | refine blk_alloc ?_ _)); refine blk_put (cs := #[.int .i64 ((rd_T84 t230 x30_2).f0), .int .i64 ((rd_T84 t230 x30_2).f1.f0), .bool ((rd_T84 t230 x30_2).f1.f1), .int .i64 ((rd_T84 t230 x30_2).f2), .int .i64 0, .int .i64 0, .int .i64 0]) ?_ 4 _ rfl; (with_reducible repeat (first | refine blk_drewN ?_ _ | refine blk_drew ?_ | refine blk_alloc ?_ _)); refine blk_put (cs := #[.int .i64 ((rd_T84 t230 x30_2).f0), .int .i64 ((rd_T84 t230 x30_2).f1.f0), .bool ((rd_T84 t230 x30_2).f1.f1), .int .i64 0, .int .i64 0, .int .i64 0, .int .i64 0]) ?_ 3 _ rfl; (with_reducible repeat (first | refine blk_drewN ?_ _ | refine blk_drew ?_ | refine blk_alloc ?_ _)); refine blk_put (cs := #[.int .i64 ((rd_T84 t230 x30_2).f0), .int .i64 ((rd_T84 t230 x30_2).f1.f0), .bool false, .int .i64 0, .int .i64 0, .int .i64 0, .int .i64 0]) ?_ 2 _ rfl; (with_reducible repeat (first | refine blk_drewN ?_ _ | refine blk_drew ?_ | refine blk_alloc ?_ _)); refine blk_put (cs := #[.int .i64 ((rd_T84 t230 x30_2).f0), .int .i64 0, .bool false, .int .i64 0, .int .i64 0, .int .i64 0, .int .i64 0]) ?_ 1 _ rfl; (with_reducible repeat (first | refine blk_drewN ?_ _ | refine blk_drew ?_ | refine blk_alloc ?_ _)); refine blk_put (cs := #[.int .i64 0, .int .i64 0, .bool false, .int .i64 0, .int .i64 0, .int .i64 0, .int .i64 0]) ?_ 0 _ rfl; (with_reducible repeat (first | refine blk_drewN ?_ _ | refine blk_drew ?_ | refine blk_alloc ?_ _)); exact BK237.out⟩, ⟨by repeat (first | (with_reducible first | exact HB.out | apply below_alloc | apply pw_below_drewN | apply below_drew1 | refine below_set ?_ GE237.out) | exact HB.out)⟩⟩
                      case rest =>
                        clear HC14
                        try clear c1
                        try clear p2
                        try clear q2
                        try clear hx2
                        try clear c3
                        try clear c4
                        try clear c4b0
                        try clear c4b1
                        try clear c5
                        try clear c6
                        try clear c6b0
                        try clear c7
                        try clear c7b0
                        try clear c11
                        try clear c11b0
                        try clear c12
                        try clear c12b0
                        try clear c13
                        try clear c13b0
                        try clear c17
                        try clear c17b0
                        try clear c17b1
                        try clear hcz16_0
                        try clear hcz16_1
                        try clear hcz16_2
                        try clear hcz16_3
                        try clear hcz16_4
                        try clear hcz16_5
                        try clear hcz16_6
                        try clear hcz18_0
                        try clear hcz18_1
                        try clear hcz18_2
                        try clear hcz18_3
                        try clear hcz18_4
                        try clear hcz18_5
                        try clear hcz18_6
                        try clear hfz16_0
                        try clear hfz16_1
                        try clear hfz16_2
                        try clear hfz16_3
                        try clear hfz16_4
                        try clear hfz16_5
                        try clear hfz16_6
                        try clear hfz18_0
                        try clear hfz18_1
                        try clear hfz18_2
                        try clear hfz18_3
                        try clear hfz18_4
                        try clear hfz18_5
                        try clear hfz18_6
                        try clear hx236_0
                        try clear hx236_1
                        try clear hx236_2
                        try clear hx236_3
                        try clear hx236_4
                        try clear hx236_5
                        try clear hx236_6
                        try clear p2
                        try clear p236
                        try clear q236
                        obtain ⟨kq, x9_13, x10_13, rfl, rfl, HA, HJ13, HO_6, HO_28, BK237, HB⟩ := hcut
                        cases kq with
                        | zero => exact absurd HA.out (by simp [feast_Of.j2])
                        | succ kj13 =>
                          have H := HA.out
                          clear HA
                          simp only [feast_Of.j2] at H
                          replace H := Option.bind_eq_some_iff.mp H
                          obtain ⟨⟨t238, t239⟩, A190, H⟩ := H
                          replace H : (feast_Of.l1 kj13 a0 a1 x6_2 x10_13 t238 t239 x9_13 t230 (t230.length : Int) x30_2 ((rd_T84 t230 x30_2).f0) ((rd_T84 t230 x30_2).f1.f0) ((rd_T84 t230 x30_2).f1.f1) ((rd_T84 t230 x30_2).f2) ((rd_T84 t230 x30_2).f3) ((rd_T84 t230 x30_2).f4) ((rd_T84 t230 x30_2).f5)) = some (r1, r2) := H
                          have A19 := Aside0.mk A190
                          clear A190
                          have H' := Aside0.mk H
                          clear H
                          have hcz20_0 : wc.cell? ⟨gb237, 0, none⟩ = some (.int .i64 ((rd_T84 t230 x30_2).f0)) := (blk_cell BK237.out 0).trans rfl
                          have hcz20_1 : wc.cell? ⟨gb237, 1, none⟩ = some (.int .i64 ((rd_T84 t230 x30_2).f1.f0)) := (blk_cell BK237.out 1).trans rfl
                          have hcz20_2 : wc.cell? ⟨gb237, 2, none⟩ = some (.bool ((rd_T84 t230 x30_2).f1.f1)) := (blk_cell BK237.out 2).trans rfl
                          have hcz20_3 : wc.cell? ⟨gb237, 3, none⟩ = some (.int .i64 ((rd_T84 t230 x30_2).f2)) := (blk_cell BK237.out 3).trans rfl
                          have hcz20_4 : wc.cell? ⟨gb237, 4, none⟩ = some (.int .i64 ((rd_T84 t230 x30_2).f3)) := (blk_cell BK237.out 4).trans rfl
                          have hcz20_5 : wc.cell? ⟨gb237, 5, none⟩ = some (.int .i64 ((rd_T84 t230 x30_2).f4)) := (blk_cell BK237.out 5).trans rfl
                          have hcz20_6 : wc.cell? ⟨gb237, 6, none⟩ = some (.int .i64 ((rd_T84 t230 x30_2).f5)) := (blk_cell BK237.out 6).trans rfl
                          have hfz20_0 := blk_frozen BK237.out 0
                          have hfz20_1 := blk_frozen BK237.out 1
                          have hfz20_2 := blk_frozen BK237.out 2
                          have hfz20_3 := blk_frozen BK237.out 3
                          have hfz20_4 := blk_frozen BK237.out 4
                          have hfz20_5 := blk_frozen BK237.out 5
                          have hfz20_6 := blk_frozen BK237.out 6
                          go_wp2_with (first | (go_at_call 52; (with_reducible refine (heb_ToDay.calls kj13 a0 ((rd_T84 t230 x30_2).f1.f0) ((rd_T84 t230 x30_2).f1.f1) 1 t238 t239 _ ?side1 A19.out).mono ?_); (case side1 => exact GlobT.below HGT (by repeat (first | (with_reducible first | exact HB.out | apply below_alloc | apply pw_below_drewN | apply below_drew1 | refine below_set ?_ GE237.out) | exact HB.out))); rintro e w21 ⟨rfl, hb⟩; have n0_ := Aside0.mk (Kd.R_below (by (with_reducible repeat (first | apply Kd.R_alloc | apply Kd.R_drewN | apply Kd.R_drew)); exact HO_6.out) hb); have n1_ := Aside0.mk (Kd.R_below (by (with_reducible repeat (first | apply Kd.R_alloc | apply Kd.R_drewN | apply Kd.R_drew)); exact HO_28.out) hb); have n2_ := Aside0.mk (blk_below (g := gb237) (o := .cells #[.int .i64 ((rd_T84 t230 x30_2).f0), .int .i64 ((rd_T84 t230 x30_2).f1.f0), .bool ((rd_T84 t230 x30_2).f1.f1), .int .i64 ((rd_T84 t230 x30_2).f2), .int .i64 ((rd_T84 t230 x30_2).f3), .int .i64 ((rd_T84 t230 x30_2).f4), .int .i64 ((rd_T84 t230 x30_2).f5)] 84 (0, 0)) (by (with_reducible repeat (first | refine blk_drewN ?_ _ | refine blk_drew ?_ | refine blk_alloc ?_ _)); exact BK237.out) hb); have n3_ := Aside0.mk (below_step (by repeat (first | (with_reducible first | exact HB.out | apply below_alloc | apply pw_below_drewN | apply below_drew1 | refine below_set ?_ GE237.out) | exact HB.out)) hb); clear HO_6; clear HO_28; clear BK237; clear HB; have HO_6 := n0_; have HO_28 := n1_; have BK237 := n2_; have HB := n3_; clear n0_ n1_ n2_ n3_; (try clear hb); (try clear hb2); (try clear hk); (try clear hi)))
                          repeat (go_quiet (first | (go_at_call 52; (with_reducible refine (heb_ToDay.calls kj13 a0 ((rd_T84 t230 x30_2).f1.f0) ((rd_T84 t230 x30_2).f1.f1) 1 t238 t239 _ ?side1 A19.out).mono ?_); (case side1 => exact GlobT.below HGT (by repeat (first | (with_reducible first | exact HB.out | apply below_alloc | apply pw_below_drewN | apply below_drew1 | refine below_set ?_ GE237.out) | exact HB.out))); rintro e w21 ⟨rfl, hb⟩; have n0_ := Aside0.mk (Kd.R_below (by (with_reducible repeat (first | apply Kd.R_alloc | apply Kd.R_drewN | apply Kd.R_drew)); exact HO_6.out) hb); have n1_ := Aside0.mk (Kd.R_below (by (with_reducible repeat (first | apply Kd.R_alloc | apply Kd.R_drewN | apply Kd.R_drew)); exact HO_28.out) hb); have n2_ := Aside0.mk (blk_below (g := gb237) (o := .cells #[.int .i64 ((rd_T84 t230 x30_2).f0), .int .i64 ((rd_T84 t230 x30_2).f1.f0), .bool ((rd_T84 t230 x30_2).f1.f1), .int .i64 ((rd_T84 t230 x30_2).f2), .int .i64 ((rd_T84 t230 x30_2).f3), .int .i64 ((rd_T84 t230 x30_2).f4), .int .i64 ((rd_T84 t230 x30_2).f5)] 84 (0, 0)) (by (with_reducible repeat (first | refine blk_drewN ?_ _ | refine blk_drew ?_ | refine blk_alloc ?_ _)); exact BK237.out) hb); have n3_ := Aside0.mk (below_step (by repeat (first | (with_reducible first | exact HB.out | apply below_alloc | apply pw_below_drewN | apply below_drew1 | refine below_set ?_ GE237.out) | exact HB.out)) hb); clear HO_6; clear HO_28; clear BK237; clear HB; have HO_6 := n0_; have HO_28 := n1_; have BK237 := n2_; have HB := n3_; clear n0_ n1_ n2_ n3_; (try clear hb); (try clear hb2); (try clear hk); (try clear hi))); try go_wp2_with (first | (go_at_call 52; (with_reducible refine (heb_ToDay.calls kj13 a0 ((rd_T84 t230 x30_2).f1.f0) ((rd_T84 t230 x30_2).f1.f1) 1 t238 t239 _ ?side1 A19.out).mono ?_); (case side1 => exact GlobT.below HGT (by repeat (first | (with_reducible first | exact HB.out | apply below_alloc | apply pw_below_drewN | apply below_drew1 | refine below_set ?_ GE237.out) | exact HB.out))); rintro e w21 ⟨rfl, hb⟩; have n0_ := Aside0.mk (Kd.R_below (by (with_reducible repeat (first | apply Kd.R_alloc | apply Kd.R_drewN | apply Kd.R_drew)); exact HO_6.out) hb); have n1_ := Aside0.mk (Kd.R_below (by (with_reducible repeat (first | apply Kd.R_alloc | apply Kd.R_drewN | apply Kd.R_drew)); exact HO_28.out) hb); have n2_ := Aside0.mk (blk_below (g := gb237) (o := .cells #[.int .i64 ((rd_T84 t230 x30_2).f0), .int .i64 ((rd_T84 t230 x30_2).f1.f0), .bool ((rd_T84 t230 x30_2).f1.f1), .int .i64 ((rd_T84 t230 x30_2).f2), .int .i64 ((rd_T84 t230 x30_2).f3), .int .i64 ((rd_T84 t230 x30_2).f4), .int .i64 ((rd_T84 t230 x30_2).f5)] 84 (0, 0)) (by (with_reducible repeat (first | refine blk_drewN ?_ _ | refine blk_drew ?_ | refine blk_alloc ?_ _)); exact BK237.out) hb); have n3_ := Aside0.mk (below_step (by repeat (first | (with_reducible first | exact HB.out | apply below_alloc | apply pw_below_drewN | apply below_drew1 | refine below_set ?_ GE237.out) | exact HB.out)) hb); clear HO_6; clear HO_28; clear BK237; clear HB; have HO_6 := n0_; have HO_28 := n1_; have BK237 := n2_; have HB := n3_; clear n0_ n1_ n2_ n3_; (try clear hb); (try clear hb2); (try clear hk); (try clear hi))))
                          go_loopg [6, 13] kj13 (fun kq v6 v13 w' => ∃ (x6_4 : List (S48)) (x13_4 : Int), v13 = .int .i64 x13_4 ∧ Aside0 (feast_Of.l1 kq a0 a1 x6_4 x10_13 t238 t239 x13_4 t230 (t230.length : Int) x30_2 ((rd_T84 t230 x30_2).f0) ((rd_T84 t230 x30_2).f1.f0) ((rd_T84 t230 x30_2).f1.f1) ((rd_T84 t230 x30_2).f2) ((rd_T84 t230 x30_2).f3) ((rd_T84 t230 x30_2).f4) ((rd_T84 t230 x30_2).f5) = some (r1, r2)) ∧ Aside0 (kq ≤ kj13) ∧ Aside0 (Kd.R k48 48 w' w.heap.size (fun _ => True) v6 x6_4) ∧ Aside0 (Kd.R k84 84 w' w.heap.size (fun k_ => k_ ≠ gb237) (.slice (some ad236) t230.length co10) t230) ∧ Aside0 (w'.heap[gb237]? = some (.cells #[.int .i64 ((rd_T84 t230 x30_2).f0), .int .i64 ((rd_T84 t230 x30_2).f1.f0), .bool ((rd_T84 t230 x30_2).f1.f1), .int .i64 ((rd_T84 t230 x30_2).f2), .int .i64 ((rd_T84 t230 x30_2).f3), .int .i64 ((rd_T84 t230 x30_2).f4), .int .i64 ((rd_T84 t230 x30_2).f5)] 84 (0, 0))) ∧ Aside0 (Below w.heap.size w w'))
                          case atStart => exact ⟨(x6_2), (x9_13), (by first | rfl | (simp; done) | (simp [*]; done)), H', ⟨Nat.le_refl _⟩, ⟨by (with_reducible repeat (first | apply Kd.R_alloc | apply Kd.R_drewN | apply Kd.R_drew)); exact HO_6.out⟩, ⟨by (with_reducible repeat (first | apply Kd.R_alloc | apply Kd.R_drewN | apply Kd.R_drew)); exact HO_28.out⟩, ⟨by (with_reducible repeat (first | refine blk_drewN ?_ _ | refine blk_drew ?_ | refine blk_alloc ?_ _)); exact BK237.out⟩, ⟨by repeat (first | (with_reducible first | exact HB.out | apply below_alloc | apply pw_below_drewN | apply below_drew1 | refine below_set ?_ GE237.out) | exact HB.out)⟩⟩
                          case round =>
                            clear H'
                            try clear c1
                            try clear p2
                            try clear q2
                            try clear hx2
                            try clear c3
                            try clear c4
                            try clear c4b0
                            try clear c4b1
                            try clear c5
                            try clear c6
                            try clear c6b0
                            try clear c7
                            try clear c7b0
                            try clear c11
                            try clear c11b0
                            try clear c12
                            try clear c12b0
                            try clear c13
                            try clear c13b0
                            try clear c17
                            try clear c17b0
                            try clear c17b1
                            try clear hcz16_0
                            try clear hcz16_1
                            try clear hcz16_2
                            try clear hcz16_3
                            try clear hcz16_4
                            try clear hcz16_5
                            try clear hcz16_6
                            try clear hcz18_0
                            try clear hcz18_1
                            try clear hcz18_2
                            try clear hcz18_3
                            try clear hcz18_4
                            try clear hcz18_5
                            try clear hcz18_6
                            try clear hcz20_0
                            try clear hcz20_1
                            try clear hcz20_2
                            try clear hcz20_3
                            try clear hcz20_4
                            try clear hcz20_5
                            try clear hcz20_6
                            try clear hfz16_0
                            try clear hfz16_1
                            try clear hfz16_2
                            try clear hfz16_3
                            try clear hfz16_4
                            try clear hfz16_5
                            try clear hfz16_6
                            try clear hfz18_0
                            try clear hfz18_1
                            try clear hfz18_2
                            try clear hfz18_3
                            try clear hfz18_4
                            try clear hfz18_5
                            try clear hfz18_6
                            try clear hfz20_0
                            try clear hfz20_1
                            try clear hfz20_2
                            try clear hfz20_3
                            try clear hfz20_4
                            try clear hfz20_5
                            try clear hfz20_6
                            try clear hx236_0
                            try clear hx236_1
                            try clear hx236_2
                            try clear hx236_3
                            try clear hx236_4
                            try clear hx236_5
                            try clear hx236_6
                            try clear p2
                            try clear p236
                            try clear q2
                            try clear q236
                            obtain ⟨x6_4, x13_4, rfl, HA, HK4, HO_6, HO_28, BK237, HB⟩ := hrel
                            cases gk with
                            | zero => exact absurd HA.out (by simp [feast_Of.l1])
                            | succ k4 =>
                              have H := HA.out
                              clear HA
                              simp only [feast_Of.l1] at H
                              by_cases c22 : t239 = 0
                              · rw [if_pos c22] at H
                                have c22b0 : (t239 == 0) = true := beq_iff_eq.mpr c22
                                have c22b1 : (t239 != 0) = false := bne_eq_false_iff_eq.mpr c22
                                clear c22
                                by_cases c23 : x13_4 ≤ x10_13
                                · rw [if_pos c23] at H
                                  have c23b0 : decide (x13_4 ≤ x10_13) = true := decide_eq_true c23
                                  clear c23
                                  by_cases c24 : x6_4.length < 8796093022208
                                  · rw [if_pos c24] at H
                                    have LMc24 := Aside0.mk c24
                                    clear c24
                                    obtain ⟨y240, hy240⟩ : ∃ y_ : List (S48), y_ = (x6_4 ++ [(⟨((rd_T84 t230 x30_2).f0), wrap64 ((wrap64 (t238 + x13_4)) - 1)⟩ : S48)]) := ⟨_, rfl⟩
                                    replace H : (feast_Of.l1 k4 a0 a1 y240 x10_13 t238 t239 (wrap64 (x13_4 + 1)) t230 (t230.length : Int) x30_2 ((rd_T84 t230 x30_2).f0) ((rd_T84 t230 x30_2).f1.f0) ((rd_T84 t230 x30_2).f1.f1) ((rd_T84 t230 x30_2).f2) ((rd_T84 t230 x30_2).f3) ((rd_T84 t230 x30_2).f4) ((rd_T84 t230 x30_2).f5)) = some (r1, r2) := by first | (rw [hy240]; with_reducible exact H) | (have H2_ := (Option.bind_some _ _).symm.trans H; rw [hy240]; with_reducible exact H2_) | (have H2_ := (Option.bind_some _ _).symm.trans H; with_reducible exact H2_) | with_reducible exact H | (rw [hy240]; exact H) | exact H
                                    have Ny240 := Aside0.mk hy240
                                    clear hy240
                                    have H' := Aside0.mk H
                                    clear H
                                    have hcz25_0 : wr.cell? ⟨gb237, 0, none⟩ = some (.int .i64 ((rd_T84 t230 x30_2).f0)) := (blk_cell BK237.out 0).trans rfl
                                    have hcz25_1 : wr.cell? ⟨gb237, 1, none⟩ = some (.int .i64 ((rd_T84 t230 x30_2).f1.f0)) := (blk_cell BK237.out 1).trans rfl
                                    have hcz25_2 : wr.cell? ⟨gb237, 2, none⟩ = some (.bool ((rd_T84 t230 x30_2).f1.f1)) := (blk_cell BK237.out 2).trans rfl
                                    have hcz25_3 : wr.cell? ⟨gb237, 3, none⟩ = some (.int .i64 ((rd_T84 t230 x30_2).f2)) := (blk_cell BK237.out 3).trans rfl
                                    have hcz25_4 : wr.cell? ⟨gb237, 4, none⟩ = some (.int .i64 ((rd_T84 t230 x30_2).f3)) := (blk_cell BK237.out 4).trans rfl
                                    have hcz25_5 : wr.cell? ⟨gb237, 5, none⟩ = some (.int .i64 ((rd_T84 t230 x30_2).f4)) := (blk_cell BK237.out 5).trans rfl
                                    have hcz25_6 : wr.cell? ⟨gb237, 6, none⟩ = some (.int .i64 ((rd_T84 t230 x30_2).f5)) := (blk_cell BK237.out 6).trans rfl
                                    have hfz25_0 := blk_frozen BK237.out 0
                                    have hfz25_1 := blk_frozen BK237.out 1
                                    have hfz25_2 := blk_frozen BK237.out 2
                                    have hfz25_3 := blk_frozen BK237.out 3
                                    have hfz25_4 := blk_frozen BK237.out 4
                                    have hfz25_5 := blk_frozen BK237.out 5
                                    have hfz25_6 := blk_frozen BK237.out 6
                                    go_wp2_with (first | ((with_reducible refine gate_builtin (b := .append) (xs := #[.tmp 62, .tmp 70]) rfl ?_); at_builtin; refine Kd.R_append k48 (w0 := w) w.heap.size rfl (.tmp 62) (.tmp 70) 38 48 (.agg #[(.int .i64 0), (.int .i64 0)]) 16 rfl Tryd.underlying38 info48 rfl (by decide) (by omega) u6 x6_4 (⟨((rd_T84 t230 x30_2).f0), wrap64 ((wrap64 (t238 + x13_4)) - 1)⟩ : S48) [.int .i64 ((rd_T84 t230 x30_2).f0), .int .i64 (wrap64 ((wrap64 (t238 + x13_4)) - 1))] (fun _ => True) (fun _ => False) rfl rfl ?aP (fun _ hk => hk.elim) ?aF ?aO ?aB ?aS ?aL ?_; (case aP => exact k48_mkM _ _ _ (⟨((rd_T84 t230 x30_2).f0), wrap64 ((wrap64 (t238 + x13_4)) - 1)⟩ : S48)); (case aB => exact (by repeat (first | (with_reducible first | exact HB.out | apply below_alloc | apply pw_below_drewN | apply below_drew1 | refine below_set ?_ GE237.out) | exact HB.out))); (case aF => exact (fun _ _ => trivial)); (case aO => exact (by (with_reducible repeat (first | apply Kd.R_alloc | apply Kd.R_drewN | apply Kd.R_drew)); exact HO_6.out)); (case aS => exact (below_size (by repeat (first | (with_reducible first | exact HB.out | apply below_alloc | apply pw_below_drewN | apply below_drew1 | refine below_set ?_ GE237.out) | exact HB.out)))); (case aL => have := LMc24.out; omega); intro v241 w26 ho hb hg hat; rw [← Ny240.out] at ho; have n0_ := Aside0.mk (Kd.R_over' (by (with_reducible repeat (first | apply Kd.R_alloc | apply Kd.R_drewN | apply Kd.R_drew)); exact HO_28.out) (Kd.R_typed (by (with_reducible repeat (first | apply Kd.R_alloc | apply Kd.R_drewN | apply Kd.R_drew)); exact HO_6.out)) (by decide) hg); have n1_ := Aside0.mk (blk_grown (g := gb237) (o := .cells #[.int .i64 ((rd_T84 t230 x30_2).f0), .int .i64 ((rd_T84 t230 x30_2).f1.f0), .bool ((rd_T84 t230 x30_2).f1.f1), .int .i64 ((rd_T84 t230 x30_2).f2), .int .i64 ((rd_T84 t230 x30_2).f3), .int .i64 ((rd_T84 t230 x30_2).f4), .int .i64 ((rd_T84 t230 x30_2).f5)] 84 (0, 0)) (by (with_reducible repeat (first | refine blk_drewN ?_ _ | refine blk_drew ?_ | refine blk_alloc ?_ _)); exact BK237.out) hg (Kd.R_ne HO_6.out BK237.out (by decide))); have n2_ := Aside0.mk (hb); have n3_ := Aside0.mk (ho); clear HO_28; clear BK237; clear HB; clear HO_6; have HO_28 := n0_; have BK237 := n1_; have HB := n2_; have HO242 := n3_; clear n0_ n1_ n2_ n3_; clear ho hb hg hat))
                                    repeat (go_quiet (first | ((with_reducible refine gate_builtin (b := .append) (xs := #[.tmp 62, .tmp 70]) rfl ?_); at_builtin; refine Kd.R_append k48 (w0 := w) w.heap.size rfl (.tmp 62) (.tmp 70) 38 48 (.agg #[(.int .i64 0), (.int .i64 0)]) 16 rfl Tryd.underlying38 info48 rfl (by decide) (by omega) u6 x6_4 (⟨((rd_T84 t230 x30_2).f0), wrap64 ((wrap64 (t238 + x13_4)) - 1)⟩ : S48) [.int .i64 ((rd_T84 t230 x30_2).f0), .int .i64 (wrap64 ((wrap64 (t238 + x13_4)) - 1))] (fun _ => True) (fun _ => False) rfl rfl ?aP (fun _ hk => hk.elim) ?aF ?aO ?aB ?aS ?aL ?_; (case aP => exact k48_mkM _ _ _ (⟨((rd_T84 t230 x30_2).f0), wrap64 ((wrap64 (t238 + x13_4)) - 1)⟩ : S48)); (case aB => exact (by repeat (first | (with_reducible first | exact HB.out | apply below_alloc | apply pw_below_drewN | apply below_drew1 | refine below_set ?_ GE237.out) | exact HB.out))); (case aF => exact (fun _ _ => trivial)); (case aO => exact (by (with_reducible repeat (first | apply Kd.R_alloc | apply Kd.R_drewN | apply Kd.R_drew)); exact HO_6.out)); (case aS => exact (below_size (by repeat (first | (with_reducible first | exact HB.out | apply below_alloc | apply pw_below_drewN | apply below_drew1 | refine below_set ?_ GE237.out) | exact HB.out)))); (case aL => have := LMc24.out; omega); intro v241 w26 ho hb hg hat; rw [← Ny240.out] at ho; have n0_ := Aside0.mk (Kd.R_over' (by (with_reducible repeat (first | apply Kd.R_alloc | apply Kd.R_drewN | apply Kd.R_drew)); exact HO_28.out) (Kd.R_typed (by (with_reducible repeat (first | apply Kd.R_alloc | apply Kd.R_drewN | apply Kd.R_drew)); exact HO_6.out)) (by decide) hg); have n1_ := Aside0.mk (blk_grown (g := gb237) (o := .cells #[.int .i64 ((rd_T84 t230 x30_2).f0), .int .i64 ((rd_T84 t230 x30_2).f1.f0), .bool ((rd_T84 t230 x30_2).f1.f1), .int .i64 ((rd_T84 t230 x30_2).f2), .int .i64 ((rd_T84 t230 x30_2).f3), .int .i64 ((rd_T84 t230 x30_2).f4), .int .i64 ((rd_T84 t230 x30_2).f5)] 84 (0, 0)) (by (with_reducible repeat (first | refine blk_drewN ?_ _ | refine blk_drew ?_ | refine blk_alloc ?_ _)); exact BK237.out) hg (Kd.R_ne HO_6.out BK237.out (by decide))); have n2_ := Aside0.mk (hb); have n3_ := Aside0.mk (ho); clear HO_28; clear BK237; clear HB; clear HO_6; have HO_28 := n0_; have BK237 := n1_; have HB := n2_; have HO242 := n3_; clear n0_ n1_ n2_ n3_; clear ho hb hg hat)); try go_wp2_with (first | ((with_reducible refine gate_builtin (b := .append) (xs := #[.tmp 62, .tmp 70]) rfl ?_); at_builtin; refine Kd.R_append k48 (w0 := w) w.heap.size rfl (.tmp 62) (.tmp 70) 38 48 (.agg #[(.int .i64 0), (.int .i64 0)]) 16 rfl Tryd.underlying38 info48 rfl (by decide) (by omega) u6 x6_4 (⟨((rd_T84 t230 x30_2).f0), wrap64 ((wrap64 (t238 + x13_4)) - 1)⟩ : S48) [.int .i64 ((rd_T84 t230 x30_2).f0), .int .i64 (wrap64 ((wrap64 (t238 + x13_4)) - 1))] (fun _ => True) (fun _ => False) rfl rfl ?aP (fun _ hk => hk.elim) ?aF ?aO ?aB ?aS ?aL ?_; (case aP => exact k48_mkM _ _ _ (⟨((rd_T84 t230 x30_2).f0), wrap64 ((wrap64 (t238 + x13_4)) - 1)⟩ : S48)); (case aB => exact (by repeat (first | (with_reducible first | exact HB.out | apply below_alloc | apply pw_below_drewN | apply below_drew1 | refine below_set ?_ GE237.out) | exact HB.out))); (case aF => exact (fun _ _ => trivial)); (case aO => exact (by (with_reducible repeat (first | apply Kd.R_alloc | apply Kd.R_drewN | apply Kd.R_drew)); exact HO_6.out)); (case aS => exact (below_size (by repeat (first | (with_reducible first | exact HB.out | apply below_alloc | apply pw_below_drewN | apply below_drew1 | refine below_set ?_ GE237.out) | exact HB.out)))); (case aL => have := LMc24.out; omega); intro v241 w26 ho hb hg hat; rw [← Ny240.out] at ho; have n0_ := Aside0.mk (Kd.R_over' (by (with_reducible repeat (first | apply Kd.R_alloc | apply Kd.R_drewN | apply Kd.R_drew)); exact HO_28.out) (Kd.R_typed (by (with_reducible repeat (first | apply Kd.R_alloc | apply Kd.R_drewN | apply Kd.R_drew)); exact HO_6.out)) (by decide) hg); have n1_ := Aside0.mk (blk_grown (g := gb237) (o := .cells #[.int .i64 ((rd_T84 t230 x30_2).f0), .int .i64 ((rd_T84 t230 x30_2).f1.f0), .bool ((rd_T84 t230 x30_2).f1.f1), .int .i64 ((rd_T84 t230 x30_2).f2), .int .i64 ((rd_T84 t230 x30_2).f3), .int .i64 ((rd_T84 t230 x30_2).f4), .int .i64 ((rd_T84 t230 x30_2).f5)] 84 (0, 0)) (by (with_reducible repeat (first | refine blk_drewN ?_ _ | refine blk_drew ?_ | refine blk_alloc ?_ _)); exact BK237.out) hg (Kd.R_ne HO_6.out BK237.out (by decide))); have n2_ := Aside0.mk (hb); have n3_ := Aside0.mk (ho); clear HO_28; clear BK237; clear HB; clear HO_6; have HO_28 := n0_; have BK237 := n1_; have HB := n2_; have HO242 := n3_; clear n0_ n1_ n2_ n3_; clear ho hb hg hat)))
                                    go_roundg k4
                                    case measure => have := HJ2.out; have := HK2.out; have := HJ13.out; have := HK4.out; omega
                                    case rel => exact ⟨(y240), (wrap64 (x13_4 + 1)), (by first | rfl | (simp; done) | (simp [*]; done)), H', ⟨by have := HJ2.out; have := HK2.out; have := HJ13.out; have := HK4.out; omega⟩, ⟨by (with_reducible repeat (first | apply Kd.R_alloc | apply Kd.R_drewN | apply Kd.R_drew)); exact HO242.out⟩, ⟨by (with_reducible repeat (first | apply Kd.R_alloc | apply Kd.R_drewN | apply Kd.R_drew)); exact HO_28.out⟩, ⟨by (with_reducible repeat (first | refine blk_drewN ?_ _ | refine blk_drew ?_ | refine blk_alloc ?_ _)); exact BK237.out⟩, ⟨by repeat (first | (with_reducible first | exact HB.out | apply below_alloc | apply pw_below_drewN | apply below_drew1 | refine below_set ?_ GE237.out) | exact HB.out)⟩⟩
                                  · rw [if_neg c24] at H
                                    exact absurd H (by simp)
                                · rw [if_neg c23] at H
                                  have c23b0 : decide (x13_4 ≤ x10_13) = false := decide_eq_false c23
                                  clear c23
                                  have H' := Aside0.mk H
                                  clear H
                                  go_wp2
                                  repeat (go_quiet (fail); try go_wp2)
                                  go_roundg k4
                                  case measure => have := HJ2.out; have := HK2.out; have := HJ13.out; have := HK4.out; omega
                                  case rel => exact ⟨(x6_4), (wrap64 (x30_2 + 1)), (by first | rfl | (simp; done) | (simp [*]; done)), H', ⟨by have := HJ2.out; have := HK2.out; have := HJ13.out; have := HK4.out; omega⟩, ⟨by (with_reducible repeat (first | apply Kd.R_alloc | apply Kd.R_drewN | apply Kd.R_drew)); exact HO_6.out⟩, ⟨by (with_reducible repeat (first | apply Kd.R_alloc | apply Kd.R_drewN | apply Kd.R_drew)); exact Kd.R_mono HO_28.out (fun _ hk => trivial)⟩, ⟨by repeat (first | (with_reducible first | exact HB.out | apply below_alloc | apply pw_below_drewN | apply below_drew1 | refine below_set ?_ GE237.out) | exact HB.out)⟩⟩
                              · rw [if_neg c22] at H
                                have c22b0 : (t239 == 0) = false := beq_eq_false_iff_ne.mpr c22
                                have c22b1 : (t239 != 0) = true := bne_iff_ne.mpr c22
                                have H' := Aside0.mk H
                                clear H
                                go_wp2
                                repeat (go_quiet (fail); try go_wp2)
                                go_roundg k4
                                case measure => have := HJ2.out; have := HK2.out; have := HJ13.out; have := HK4.out; omega
                                case rel => exact ⟨(x6_4), (wrap64 (x30_2 + 1)), (by first | rfl | (simp; done) | (simp [*]; done)), H', ⟨by have := HJ2.out; have := HK2.out; have := HJ13.out; have := HK4.out; omega⟩, ⟨by (with_reducible repeat (first | apply Kd.R_alloc | apply Kd.R_drewN | apply Kd.R_drew)); exact HO_6.out⟩, ⟨by (with_reducible repeat (first | apply Kd.R_alloc | apply Kd.R_drewN | apply Kd.R_drew)); exact Kd.R_mono HO_28.out (fun _ hk => trivial)⟩, ⟨by repeat (first | (with_reducible first | exact HB.out | apply below_alloc | apply pw_below_drewN | apply below_drew1 | refine below_set ?_ GE237.out) | exact HB.out)⟩⟩
                    · rw [if_neg c13] at H
                      exact absurd H (by simp)
                  · rw [if_neg c12] at H
                    exact absurd H (by simp)
                · rw [if_neg c11] at H
                  have c11b0 : decide (x30_2 < (t230.length : Int)) = false := decide_eq_false c11
                  clear c11
                  replace H := Option.bind_eq_some_iff.mp H
                  obtain ⟨t233, A270, H⟩ := H
                  replace H : (some (t233, 0)) = some (r1, r2) := H
                  have A27 := Aside0.mk A270
                  clear A270
                  simp only [Option.some.injEq, Prod.mk.injEq] at H
                  obtain ⟨rfl, rfl⟩ := H
                  obtain ⟨Ao28, co28, eo28⟩ := Kd.R_slice HO_6.out
                  subst eo28
                  go_wp2_with (first | (go_at_call 39; (with_reducible refine (feast_Sort.calls _ _ x6_2 t233 _ ?side1 ?side2 A27.out).mono ?_); (case side1 => repeat (first | exact (Kd.R_reads' HO_6.out).2.2 | (with_reducible refine Kd.C_alloc ?_ _) | (with_reducible refine Kd.C_drewN ?_ _) | (with_reducible refine Kd.C_drew ?_))); (case side2 => exact (Kd.R_reads' HO_6.out).2.1); rintro e w29 ⟨v234, rfl, ho0, hb⟩; have n0_ := Aside0.mk (Kd.R_elder' (by (with_reducible repeat (first | apply Kd.R_alloc | apply Kd.R_drewN | apply Kd.R_drew)); exact HO_6.out) (Kd.R_base ho0) hb); have n1_ := Aside0.mk (Kd.R_below (by (with_reducible repeat (first | apply Kd.R_alloc | apply Kd.R_drewN | apply Kd.R_drew)); exact HO_28.out) hb); have n2_ := Aside0.mk (Kd.R_lower (Kd.R_new' ho0 (Kd.R_lt (by (with_reducible repeat (first | apply Kd.R_alloc | apply Kd.R_drewN | apply Kd.R_drew)); exact HO_6.out))) (below_size (by repeat (first | (with_reducible first | exact HB.out | apply below_alloc | apply pw_below_drewN | apply below_drew1) | exact HB.out)))); have n3_ := Aside0.mk (below_step (by repeat (first | (with_reducible first | exact HB.out | apply below_alloc | apply pw_below_drewN | apply below_drew1) | exact HB.out)) hb); clear HO_6; clear HO_28; clear HB; have HO_6 := n0_; have HO_28 := n1_; have HO235 := n2_; have HB := n3_; clear n0_ n1_ n2_ n3_; (try clear hb); (try clear hb2); (try clear hk); (try clear hi); (try clear ho0)))
                  repeat (go_quiet (first | (go_at_call 39; (with_reducible refine (feast_Sort.calls _ _ x6_2 t233 _ ?side1 ?side2 A27.out).mono ?_); (case side1 => repeat (first | exact (Kd.R_reads' HO_6.out).2.2 | (with_reducible refine Kd.C_alloc ?_ _) | (with_reducible refine Kd.C_drewN ?_ _) | (with_reducible refine Kd.C_drew ?_))); (case side2 => exact (Kd.R_reads' HO_6.out).2.1); rintro e w29 ⟨v234, rfl, ho0, hb⟩; have n0_ := Aside0.mk (Kd.R_elder' (by (with_reducible repeat (first | apply Kd.R_alloc | apply Kd.R_drewN | apply Kd.R_drew)); exact HO_6.out) (Kd.R_base ho0) hb); have n1_ := Aside0.mk (Kd.R_below (by (with_reducible repeat (first | apply Kd.R_alloc | apply Kd.R_drewN | apply Kd.R_drew)); exact HO_28.out) hb); have n2_ := Aside0.mk (Kd.R_lower (Kd.R_new' ho0 (Kd.R_lt (by (with_reducible repeat (first | apply Kd.R_alloc | apply Kd.R_drewN | apply Kd.R_drew)); exact HO_6.out))) (below_size (by repeat (first | (with_reducible first | exact HB.out | apply below_alloc | apply pw_below_drewN | apply below_drew1) | exact HB.out)))); have n3_ := Aside0.mk (below_step (by repeat (first | (with_reducible first | exact HB.out | apply below_alloc | apply pw_below_drewN | apply below_drew1) | exact HB.out)) hb); clear HO_6; clear HO_28; clear HB; have HO_6 := n0_; have HO_28 := n1_; have HO235 := n2_; have HB := n3_; clear n0_ n1_ n2_ n3_; (try clear hb); (try clear hb2); (try clear hk); (try clear hi); (try clear ho0))); try go_wp2_with (first | (go_at_call 39; (with_reducible refine (feast_Sort.calls _ _ x6_2 t233 _ ?side1 ?side2 A27.out).mono ?_); (case side1 => repeat (first | exact (Kd.R_reads' HO_6.out).2.2 | (with_reducible refine Kd.C_alloc ?_ _) | (with_reducible refine Kd.C_drewN ?_ _) | (with_reducible refine Kd.C_drew ?_))); (case side2 => exact (Kd.R_reads' HO_6.out).2.1); rintro e w29 ⟨v234, rfl, ho0, hb⟩; have n0_ := Aside0.mk (Kd.R_elder' (by (with_reducible repeat (first | apply Kd.R_alloc | apply Kd.R_drewN | apply Kd.R_drew)); exact HO_6.out) (Kd.R_base ho0) hb); have n1_ := Aside0.mk (Kd.R_below (by (with_reducible repeat (first | apply Kd.R_alloc | apply Kd.R_drewN | apply Kd.R_drew)); exact HO_28.out) hb); have n2_ := Aside0.mk (Kd.R_lower (Kd.R_new' ho0 (Kd.R_lt (by (with_reducible repeat (first | apply Kd.R_alloc | apply Kd.R_drewN | apply Kd.R_drew)); exact HO_6.out))) (below_size (by repeat (first | (with_reducible first | exact HB.out | apply below_alloc | apply pw_below_drewN | apply below_drew1) | exact HB.out)))); have n3_ := Aside0.mk (below_step (by repeat (first | (with_reducible first | exact HB.out | apply below_alloc | apply pw_below_drewN | apply below_drew1) | exact HB.out)) hb); clear HO_6; clear HO_28; clear HB; have HO_6 := n0_; have HO_28 := n1_; have HO235 := n2_; have HB := n3_; clear n0_ n1_ n2_ n3_; (try clear hb); (try clear hb2); (try clear hk); (try clear hi); (try clear ho0))))
                  go_ret2
                  exact ⟨_, by first | rfl | (simp [errW_none, errW_some] <;> rfl) | (simp [*, errW_none, errW_some] <;> rfl), by (with_reducible repeat (first | apply Kd.R_alloc | apply Kd.R_drewN | apply Kd.R_drew)); exact Kd.R_mono HO235.out (fun _ hk => trivial), by repeat (first | (with_reducible first | exact HB.out | apply below_alloc | apply pw_below_drewN | apply below_drew1) | exact HB.out)⟩

end Go.Proofs.YtflpddhoiafhcaaDoor.P
end

section
-- Written by wip/hprint.py of this repo (holes typed by hand, all else by a program) over the seat YtflpddhoiafhcaaDoor.
namespace Go.Proofs.YtflpddhoiafhcaaDoor.P
open Go.Proofs.YtflpddhoiafhcaaDoor.H
open Go.RowKit Go.Proofs.YtflpddhoiafhcaaDoorW.PrintWords Go.Proofs.YtflpddhoiafhcaaDoorW.PrintLast Go.Proofs.YtflpddhoiafhcaaDoorW.PrintMore
attribute [local go_sem] max2_int min2_int max_two min_two max_three min_three max_four min_four   -- for this text's walks alone
set_option linter.unusedVariables false
set_option linter.unusedSimpArgs false

def feast_Rest.f (a0 : Int) : Option (Bool) := if a0 = 1 then (some true) else (if a0 = 3 then (some true) else (if a0 = 4 then (some true) else (if a0 = 5 then (some true) else (if a0 = 6 then (some true) else (if a0 = 7 then (some true) else (if a0 = 8 then (some true) else (if a0 = 17 then (some true) else (if a0 = 18 then (some true) else (if a0 = 25 then (some true) else (some false))))))))))
set_option maxHeartbeats 8000000 in
set_option maxRecDepth 100000 in
theorem feast_Rest.calls (a0 : Int) (r : Bool) (w : World) (h : feast_Rest.f a0 = some r) :
    Calls Tryd.prog 37 #[.int .i64 a0] w fun e w' => e = .returned (.bool r) ∧ Drawn0 w w' := by
  have H : (if a0 = 1 then (some true) else (if a0 = 3 then (some true) else (if a0 = 4 then (some true) else (if a0 = 5 then (some true) else (if a0 = 6 then (some true) else (if a0 = 7 then (some true) else (if a0 = 8 then (some true) else (if a0 = 17 then (some true) else (if a0 = 18 then (some true) else (if a0 = 25 then (some true) else (some false))))))))))) = some r := h
  clear h
  by_cases c2 : a0 = 1
  · rw [if_pos c2] at H
    have c2b0 : (a0 == 1) = true := beq_iff_eq.mpr c2
    have c2b1 : (a0 != 1) = false := bne_eq_false_iff_eq.mpr c2
    clear c2
    obtain rfl := Option.some.inj H
    go_enter Tryd.func37, Tryd.ntmps37
    go_wp2
    go_ret
    exact ⟨by first | rfl | (simp; done) | (simp [*]; done), by repeat (first | exact Drawn0.refl _ | apply Drawn0.step)⟩
  · rw [if_neg c2] at H
    have c2b0 : (a0 == 1) = false := beq_eq_false_iff_ne.mpr c2
    have c2b1 : (a0 != 1) = true := bne_iff_ne.mpr c2
    by_cases c3 : a0 = 3
    · rw [if_pos c3] at H
      have c3b0 : (a0 == 3) = true := beq_iff_eq.mpr c3
      have c3b1 : (a0 != 3) = false := bne_eq_false_iff_eq.mpr c3
      clear c3
      obtain rfl := Option.some.inj H
      go_enter Tryd.func37, Tryd.ntmps37
      go_wp2
      go_ret
      exact ⟨by first | rfl | (simp; done) | (simp [*]; done), by repeat (first | exact Drawn0.refl _ | apply Drawn0.step)⟩
    · rw [if_neg c3] at H
      have c3b0 : (a0 == 3) = false := beq_eq_false_iff_ne.mpr c3
      have c3b1 : (a0 != 3) = true := bne_iff_ne.mpr c3
      by_cases c4 : a0 = 4
      · rw [if_pos c4] at H
        have c4b0 : (a0 == 4) = true := beq_iff_eq.mpr c4
        have c4b1 : (a0 != 4) = false := bne_eq_false_iff_eq.mpr c4
        clear c4
        obtain rfl := Option.some.inj H
        go_enter Tryd.func37, Tryd.ntmps37
        go_wp2
        go_ret
        exact ⟨by first | rfl | (simp; done) | (simp [*]; done), by repeat (first | exact Drawn0.refl _ | apply Drawn0.step)⟩
      · rw [if_neg c4] at H
        have c4b0 : (a0 == 4) = false := beq_eq_false_iff_ne.mpr c4
        have c4b1 : (a0 != 4) = true := bne_iff_ne.mpr c4
        by_cases c5 : a0 = 5
        · rw [if_pos c5] at H
          have c5b0 : (a0 == 5) = true := beq_iff_eq.mpr c5
          have c5b1 : (a0 != 5) = false := bne_eq_false_iff_eq.mpr c5
          clear c5
          obtain rfl := Option.some.inj H
          go_enter Tryd.func37, Tryd.ntmps37
          go_wp2
          go_ret
          exact ⟨by first | rfl | (simp; done) | (simp [*]; done), by repeat (first | exact Drawn0.refl _ | apply Drawn0.step)⟩
        · rw [if_neg c5] at H
          have c5b0 : (a0 == 5) = false := beq_eq_false_iff_ne.mpr c5
          have c5b1 : (a0 != 5) = true := bne_iff_ne.mpr c5
          by_cases c6 : a0 = 6
          · rw [if_pos c6] at H
            have c6b0 : (a0 == 6) = true := beq_iff_eq.mpr c6
            have c6b1 : (a0 != 6) = false := bne_eq_false_iff_eq.mpr c6
            clear c6
            obtain rfl := Option.some.inj H
            go_enter Tryd.func37, Tryd.ntmps37
            go_wp2
            go_ret
            exact ⟨by first | rfl | (simp; done) | (simp [*]; done), by repeat (first | exact Drawn0.refl _ | apply Drawn0.step)⟩
          · rw [if_neg c6] at H
            have c6b0 : (a0 == 6) = false := beq_eq_false_iff_ne.mpr c6
            have c6b1 : (a0 != 6) = true := bne_iff_ne.mpr c6
            by_cases c7 : a0 = 7
            · rw [if_pos c7] at H
              have c7b0 : (a0 == 7) = true := beq_iff_eq.mpr c7
              have c7b1 : (a0 != 7) = false := bne_eq_false_iff_eq.mpr c7
              clear c7
              obtain rfl := Option.some.inj H
              go_enter Tryd.func37, Tryd.ntmps37
              go_wp2
              go_ret
              exact ⟨by first | rfl | (simp; done) | (simp [*]; done), by repeat (first | exact Drawn0.refl _ | apply Drawn0.step)⟩
            · rw [if_neg c7] at H
              have c7b0 : (a0 == 7) = false := beq_eq_false_iff_ne.mpr c7
              have c7b1 : (a0 != 7) = true := bne_iff_ne.mpr c7
              by_cases c8 : a0 = 8
              · rw [if_pos c8] at H
                have c8b0 : (a0 == 8) = true := beq_iff_eq.mpr c8
                have c8b1 : (a0 != 8) = false := bne_eq_false_iff_eq.mpr c8
                clear c8
                obtain rfl := Option.some.inj H
                go_enter Tryd.func37, Tryd.ntmps37
                go_wp2
                go_ret
                exact ⟨by first | rfl | (simp; done) | (simp [*]; done), by repeat (first | exact Drawn0.refl _ | apply Drawn0.step)⟩
              · rw [if_neg c8] at H
                have c8b0 : (a0 == 8) = false := beq_eq_false_iff_ne.mpr c8
                have c8b1 : (a0 != 8) = true := bne_iff_ne.mpr c8
                by_cases c9 : a0 = 17
                · rw [if_pos c9] at H
                  have c9b0 : (a0 == 17) = true := beq_iff_eq.mpr c9
                  have c9b1 : (a0 != 17) = false := bne_eq_false_iff_eq.mpr c9
                  clear c9
                  obtain rfl := Option.some.inj H
                  go_enter Tryd.func37, Tryd.ntmps37
                  go_wp2
                  go_ret
                  exact ⟨by first | rfl | (simp; done) | (simp [*]; done), by repeat (first | exact Drawn0.refl _ | apply Drawn0.step)⟩
                · rw [if_neg c9] at H
                  have c9b0 : (a0 == 17) = false := beq_eq_false_iff_ne.mpr c9
                  have c9b1 : (a0 != 17) = true := bne_iff_ne.mpr c9
                  by_cases c10 : a0 = 18
                  · rw [if_pos c10] at H
                    have c10b0 : (a0 == 18) = true := beq_iff_eq.mpr c10
                    have c10b1 : (a0 != 18) = false := bne_eq_false_iff_eq.mpr c10
                    clear c10
                    obtain rfl := Option.some.inj H
                    go_enter Tryd.func37, Tryd.ntmps37
                    go_wp2
                    go_ret
                    exact ⟨by first | rfl | (simp; done) | (simp [*]; done), by repeat (first | exact Drawn0.refl _ | apply Drawn0.step)⟩
                  · rw [if_neg c10] at H
                    have c10b0 : (a0 == 18) = false := beq_eq_false_iff_ne.mpr c10
                    have c10b1 : (a0 != 18) = true := bne_iff_ne.mpr c10
                    by_cases c11 : a0 = 25
                    · rw [if_pos c11] at H
                      have c11b0 : (a0 == 25) = true := beq_iff_eq.mpr c11
                      have c11b1 : (a0 != 25) = false := bne_eq_false_iff_eq.mpr c11
                      clear c11
                      obtain rfl := Option.some.inj H
                      go_enter Tryd.func37, Tryd.ntmps37
                      go_wp2
                      go_ret
                      exact ⟨by first | rfl | (simp; done) | (simp [*]; done), by repeat (first | exact Drawn0.refl _ | apply Drawn0.step)⟩
                    · rw [if_neg c11] at H
                      have c11b0 : (a0 == 25) = false := beq_eq_false_iff_ne.mpr c11
                      have c11b1 : (a0 != 25) = true := bne_iff_ne.mpr c11
                      obtain rfl := Option.some.inj H
                      go_enter Tryd.func37, Tryd.ntmps37
                      go_wp2
                      go_ret
                      exact ⟨by first | rfl | (simp; done) | (simp [*]; done), by repeat (first | exact Drawn0.refl _ | apply Drawn0.step)⟩

def almanackerlaw19_awake.l0 : Nat → List (S48) → Int → Int → Int → Int → Option (Bool)
  | 0, _, _, _, _, _ => none
  | k + 1, x1, x2, x3, x4, x5 => if x5 < (x1.length : Int) then (if 0 ≤ x5 then (if ((rd_T48 x1 x5).f0) = 17 then (almanackerlaw19_awake.l0 k x1 x2 (wrap64 (x3 + 1)) ((rd_T48 x1 x5).f1) (wrap64 (x5 + 1))) else (almanackerlaw19_awake.l0 k x1 x2 x3 x4 (wrap64 (x5 + 1)))) else (none)) else ((feast_Of.f k 5784 2).bind fun bt278 => (if x2 = 0 then (if x3 = 4 then (if x4 = 739006 then (if bt278.2 = 1 then ((feast_Rest.f 17).bind fun t282 => (if t282 = true then ((feast_Rest.f 14).bind fun t283 => (some (!t283))) else (some false))) else (some false)) else (some false)) else (some false)) else (some false)))
def almanackerlaw19_awake.f (k : Nat)  : Option (Bool) := (feast_Of.f k 5784 0).bind fun bt272 => (almanackerlaw19_awake.l0 k bt272.1 bt272.2 0 0 0)
theorem almanackerlaw19_awake.mono_l : ∀ k, (∀ y0 y1 y2 y3 y4, LeO (almanackerlaw19_awake.l0 k y0 y1 y2 y3 y4) (almanackerlaw19_awake.l0 (k + 1) y0 y1 y2 y3 y4))
  | 0 => fun _ _ _ _ _ r h => by simp [almanackerlaw19_awake.l0] at h
  | k + 1 => by
    have ih0 := almanackerlaw19_awake.mono_l k
    · intro y0 y1 y2 y3 y4
      unfold almanackerlaw19_awake.l0
      repeat' first
      | (with_reducible exact ih0 _ _ _ _ _)
      | (with_reducible exact feast_Of.mono _ _ _)
      | (with_reducible exact LeO.refl _)
      | (with_reducible exact LeO.none _)
      | (with_reducible refine LeO.ite ?_ ?_)
      | (with_reducible refine LeO.bind ?_ (fun _ => ?_))
      | exact ih0 _ _ _ _ _
      | exact feast_Of.mono _ _ _
      | exact LeO.none _
      | refine LeO.ite ?_ ?_
      | refine LeO.bind ?_ (fun _ => ?_)
theorem almanackerlaw19_awake.mono : ∀ k, LeO (almanackerlaw19_awake.f k ) (almanackerlaw19_awake.f (k + 1) ) := by
  intro  k
  have ih0 := almanackerlaw19_awake.mono_l k
  unfold almanackerlaw19_awake.f
  repeat' first
      | (with_reducible exact ih0 _ _ _ _ _)
      | (with_reducible exact feast_Of.mono _ _ _)
      | (with_reducible exact LeO.refl _)
      | (with_reducible exact LeO.none _)
      | (with_reducible refine LeO.ite ?_ ?_)
      | (with_reducible refine LeO.bind ?_ (fun _ => ?_))
      | exact ih0 _ _ _ _ _
      | exact feast_Of.mono _ _ _
      | exact LeO.none _
      | refine LeO.ite ?_ ?_
      | refine LeO.bind ?_ (fun _ => ?_)
set_option maxHeartbeats 8000000 in
set_option maxRecDepth 100000 in
theorem almanackerlaw19_awake.calls (k : Nat)  (r : Bool) (w : World) (HGT : GlobT w) (h : almanackerlaw19_awake.f k  = some r) :
    Calls Tryd.prog 35 #[] w fun e w' => e = .returned (.bool r) ∧ Below w.heap.size w w' := by
  have HB := Aside0.mk (Below.refl w.heap.size w)
  have H : ((feast_Of.f k 5784 0).bind fun bt272 => (almanackerlaw19_awake.l0 k bt272.1 bt272.2 0 0 0)) = some r := h
  clear h
  replace H := Option.bind_eq_some_iff.mp H
  obtain ⟨⟨t272, t273⟩, A10, H⟩ := H
  replace H : (almanackerlaw19_awake.l0 k t272 t273 0 0 0) = some r := H
  have A1 := Aside0.mk A10
  clear A10
  have H' := Aside0.mk H
  clear H
  go_enter Tryd.func35, Tryd.ntmps35
  go_wp2_with (first | (go_at_call 33; (with_reducible refine (feast_Of.calls k 5784 0 t272 t273 _ ?side1 A1.out).mono ?_); (case side1 => exact GlobT.below HGT (by repeat (first | (with_reducible first | exact HB.out | apply below_alloc | apply pw_below_drewN | apply below_drew1) | exact HB.out))); rintro e w2 ⟨v274, rfl, ho0, hb⟩; have n0_ := Aside0.mk (Kd.R_lower ho0 (below_size (by repeat (first | (with_reducible first | exact HB.out | apply below_alloc | apply pw_below_drewN | apply below_drew1) | exact HB.out)))); have n1_ := Aside0.mk (below_step (by repeat (first | (with_reducible first | exact HB.out | apply below_alloc | apply pw_below_drewN | apply below_drew1) | exact HB.out)) hb); clear HB; have HO275 := n0_; have HB := n1_; clear n0_ n1_; (try clear hb); (try clear hb2); (try clear hk); (try clear hi); (try clear ho0)))
  repeat (go_quiet (first | (go_at_call 33; (with_reducible refine (feast_Of.calls k 5784 0 t272 t273 _ ?side1 A1.out).mono ?_); (case side1 => exact GlobT.below HGT (by repeat (first | (with_reducible first | exact HB.out | apply below_alloc | apply pw_below_drewN | apply below_drew1) | exact HB.out))); rintro e w2 ⟨v274, rfl, ho0, hb⟩; have n0_ := Aside0.mk (Kd.R_lower ho0 (below_size (by repeat (first | (with_reducible first | exact HB.out | apply below_alloc | apply pw_below_drewN | apply below_drew1) | exact HB.out)))); have n1_ := Aside0.mk (below_step (by repeat (first | (with_reducible first | exact HB.out | apply below_alloc | apply pw_below_drewN | apply below_drew1) | exact HB.out)) hb); clear HB; have HO275 := n0_; have HB := n1_; clear n0_ n1_; (try clear hb); (try clear hb2); (try clear hk); (try clear hi); (try clear ho0))); try go_wp2_with (first | (go_at_call 33; (with_reducible refine (feast_Of.calls k 5784 0 t272 t273 _ ?side1 A1.out).mono ?_); (case side1 => exact GlobT.below HGT (by repeat (first | (with_reducible first | exact HB.out | apply below_alloc | apply pw_below_drewN | apply below_drew1) | exact HB.out))); rintro e w2 ⟨v274, rfl, ho0, hb⟩; have n0_ := Aside0.mk (Kd.R_lower ho0 (below_size (by repeat (first | (with_reducible first | exact HB.out | apply below_alloc | apply pw_below_drewN | apply below_drew1) | exact HB.out)))); have n1_ := Aside0.mk (below_step (by repeat (first | (with_reducible first | exact HB.out | apply below_alloc | apply pw_below_drewN | apply below_drew1) | exact HB.out)) hb); clear HB; have HO275 := n0_; have HB := n1_; clear n0_ n1_; (try clear hb); (try clear hb2); (try clear hk); (try clear hi); (try clear ho0))))
  go_loopg [3, 4, 5] k (fun kq v3 v4 v5 w' => ∃ (x3_1 : Int) (x4_1 : Int) (x5_1 : Int), v3 = .int .i64 x3_1 ∧ v4 = .int .i64 x4_1 ∧ v5 = .int .i64 x5_1 ∧ Aside0 (almanackerlaw19_awake.l0 kq t272 t273 x3_1 x4_1 x5_1 = some r) ∧ Aside0 (kq ≤ k) ∧ Aside0 (Kd.R k48 48 w' w.heap.size (fun _ => True) v274 t272) ∧ Aside0 (Below w.heap.size w w'))
  case atStart => exact ⟨(0), (0), (0), (by first | rfl | (simp; done) | (simp [*]; done)), (by first | rfl | (simp; done) | (simp [*]; done)), (by first | rfl | (simp; done) | (simp [*]; done)), H', ⟨Nat.le_refl _⟩, ⟨by (with_reducible repeat (first | apply Kd.R_alloc | apply Kd.R_drewN | apply Kd.R_drew)); exact HO275.out⟩, ⟨by repeat (first | (with_reducible first | exact HB.out | apply below_alloc | apply pw_below_drewN | apply below_drew1) | exact HB.out)⟩⟩
  case round =>
    clear H'
    try clear p2
    obtain ⟨x3_1, x4_1, x5_1, rfl, rfl, rfl, HA, HK1, HO_1, HB⟩ := hrel
    cases gk with
    | zero => exact absurd HA.out (by simp [almanackerlaw19_awake.l0])
    | succ k1 =>
      have H := HA.out
      clear HA
      simp only [almanackerlaw19_awake.l0] at H
      by_cases c3 : x5_1 < (t272.length : Int)
      · rw [if_pos c3] at H
        have c3b0 : decide (x5_1 < (t272.length : Int)) = true := decide_eq_true c3
        clear c3
        by_cases c4 : 0 ≤ x5_1
        · rw [if_pos c4] at H
          have c4b0 : decide (0 ≤ x5_1) = true := decide_eq_true c4
          clear c4
          by_cases c5 : ((rd_T48 t272 x5_1).f0) = 17
          · rw [if_pos c5] at H
            have c5b0 : (((rd_T48 t272 x5_1).f0) == 17) = true := beq_iff_eq.mpr c5
            have c5b1 : (((rd_T48 t272 x5_1).f0) != 17) = false := bne_eq_false_iff_eq.mpr c5
            clear c5
            have H' := Aside0.mk H
            clear H
            obtain ⟨Ao6, co6, eo6⟩ := Kd.R_slice HO_1.out
            subst eo6
            have p276 : 0 ≤ (x5_1 : Int) := of_decide_eq_true (by first | (with_reducible assumption) | assumption)
            have q276 : x5_1 < (t272.length : Int) := of_decide_eq_true (by first | (with_reducible assumption) | assumption)
            obtain ⟨ad276, e276, hx276_0, hx276_1⟩ := at_T48 (Kd.R_reads' HO_1.out).2.2 x5_1 p276 q276
            cases e276
            replace p276 := eq_true p276
            replace q276 := eq_true q276
            have p277 : 0 ≤ (x5_1 : Int) := of_decide_eq_true (by first | (with_reducible assumption) | assumption)
            have q277 : x5_1 < (t272.length : Int) := of_decide_eq_true (by first | (with_reducible assumption) | assumption)
            obtain ⟨ad277, e277, hx277_0, hx277_1⟩ := at_T48 (Kd.R_reads' HO_1.out).2.2 x5_1 p277 q277
            obtain rfl : ad276 = ad277 := (by injection e277)
            replace p277 := eq_true p277
            replace q277 := eq_true q277
            go_wp2
            repeat (go_quiet (fail); try go_wp2)
            go_roundg k1
            case measure => have := HK1.out; omega
            case rel => exact ⟨(wrap64 (x3_1 + 1)), ((rd_T48 t272 x5_1).f1), (wrap64 (x5_1 + 1)), (by first | rfl | (simp; done) | (simp [*]; done)), (by first | rfl | (simp; done) | (simp [*]; done)), (by first | rfl | (simp; done) | (simp [*]; done)), H', ⟨by have := HK1.out; omega⟩, ⟨by (with_reducible repeat (first | apply Kd.R_alloc | apply Kd.R_drewN | apply Kd.R_drew)); exact HO_1.out⟩, ⟨by repeat (first | (with_reducible first | exact HB.out | apply below_alloc | apply pw_below_drewN | apply below_drew1) | exact HB.out)⟩⟩
          · rw [if_neg c5] at H
            have c5b0 : (((rd_T48 t272 x5_1).f0) == 17) = false := beq_eq_false_iff_ne.mpr c5
            have c5b1 : (((rd_T48 t272 x5_1).f0) != 17) = true := bne_iff_ne.mpr c5
            have H' := Aside0.mk H
            clear H
            obtain ⟨Ao7, co7, eo7⟩ := Kd.R_slice HO_1.out
            subst eo7
            have p276 : 0 ≤ (x5_1 : Int) := of_decide_eq_true (by first | (with_reducible assumption) | assumption)
            have q276 : x5_1 < (t272.length : Int) := of_decide_eq_true (by first | (with_reducible assumption) | assumption)
            obtain ⟨ad276, e276, hx276_0, hx276_1⟩ := at_T48 (Kd.R_reads' HO_1.out).2.2 x5_1 p276 q276
            cases e276
            replace p276 := eq_true p276
            replace q276 := eq_true q276
            go_wp2
            repeat (go_quiet (fail); try go_wp2)
            go_roundg k1
            case measure => have := HK1.out; omega
            case rel => exact ⟨(x3_1), (x4_1), (wrap64 (x5_1 + 1)), (by first | rfl | (simp; done) | (simp [*]; done)), (by first | rfl | (simp; done) | (simp [*]; done)), (by first | rfl | (simp; done) | (simp [*]; done)), H', ⟨by have := HK1.out; omega⟩, ⟨by (with_reducible repeat (first | apply Kd.R_alloc | apply Kd.R_drewN | apply Kd.R_drew)); exact HO_1.out⟩, ⟨by repeat (first | (with_reducible first | exact HB.out | apply below_alloc | apply pw_below_drewN | apply below_drew1) | exact HB.out)⟩⟩
        · rw [if_neg c4] at H
          exact absurd H (by simp)
      · rw [if_neg c3] at H
        have c3b0 : decide (x5_1 < (t272.length : Int)) = false := decide_eq_false c3
        clear c3
        replace H := Option.bind_eq_some_iff.mp H
        obtain ⟨⟨t278, t279⟩, A80, H⟩ := H
        replace H : (if t273 = 0 then (if x3_1 = 4 then (if x4_1 = 739006 then (if t279 = 1 then ((feast_Rest.f 17).bind fun t282 => (if t282 = true then ((feast_Rest.f 14).bind fun t283 => (some (!t283))) else (some false))) else (some false)) else (some false)) else (some false)) else (some false)) = some r := H
        have A8 := Aside0.mk A80
        clear A80
        by_cases c9 : t273 = 0
        · rw [if_pos c9] at H
          have c9b0 : (t273 == 0) = true := beq_iff_eq.mpr c9
          have c9b1 : (t273 != 0) = false := bne_eq_false_iff_eq.mpr c9
          clear c9
          by_cases c10 : x3_1 = 4
          · rw [if_pos c10] at H
            have c10b0 : (x3_1 == 4) = true := beq_iff_eq.mpr c10
            have c10b1 : (x3_1 != 4) = false := bne_eq_false_iff_eq.mpr c10
            clear c10
            by_cases c11 : x4_1 = 739006
            · rw [if_pos c11] at H
              have c11b0 : (x4_1 == 739006) = true := beq_iff_eq.mpr c11
              have c11b1 : (x4_1 != 739006) = false := bne_eq_false_iff_eq.mpr c11
              clear c11
              by_cases c12 : t279 = 1
              · rw [if_pos c12] at H
                have c12b0 : (t279 == 1) = true := beq_iff_eq.mpr c12
                have c12b1 : (t279 != 1) = false := bne_eq_false_iff_eq.mpr c12
                clear c12
                replace H := Option.bind_eq_some_iff.mp H
                obtain ⟨t282, A130, H⟩ := H
                replace H : (if t282 = true then ((feast_Rest.f 14).bind fun t283 => (some (!t283))) else (some false)) = some r := H
                have A13 := Aside0.mk A130
                clear A130
                by_cases c14 : t282 = true
                · subst c14
                  have H1 : ((feast_Rest.f 14).bind fun t283 => (some (!t283))) = some r := by rw [if_pos rfl] at H; exact H
                  clear H
                  have H := H1
                  clear H1
                  replace H := Option.bind_eq_some_iff.mp H
                  obtain ⟨t283, A150, H⟩ := H
                  replace H : (some (!t283)) = some r := H
                  have A15 := Aside0.mk A150
                  clear A150
                  obtain rfl := Option.some.inj H
                  obtain ⟨Ao16, co16, eo16⟩ := Kd.R_slice HO_1.out
                  subst eo16
                  go_wp2_with (first | (go_at_call 33; (with_reducible refine (feast_Of.calls k1 5784 2 t278 t279 _ ?side1 A8.out).mono ?_); (case side1 => exact GlobT.below HGT (by repeat (first | (with_reducible first | exact HB.out | apply below_alloc | apply pw_below_drewN | apply below_drew1) | exact HB.out))); rintro e w17 ⟨v280, rfl, ho0, hb⟩; have n0_ := Aside0.mk (Kd.R_elder' (by (with_reducible repeat (first | apply Kd.R_alloc | apply Kd.R_drewN | apply Kd.R_drew)); exact HO_1.out) (Kd.R_base ho0) hb); have n1_ := Aside0.mk (Kd.R_lower (Kd.R_new' ho0 (Kd.R_lt (by (with_reducible repeat (first | apply Kd.R_alloc | apply Kd.R_drewN | apply Kd.R_drew)); exact HO_1.out))) (below_size (by repeat (first | (with_reducible first | exact HB.out | apply below_alloc | apply pw_below_drewN | apply below_drew1) | exact HB.out)))); have n2_ := Aside0.mk (below_step (by repeat (first | (with_reducible first | exact HB.out | apply below_alloc | apply pw_below_drewN | apply below_drew1) | exact HB.out)) hb); clear HO_1; clear HB; have HO_1 := n0_; have HO281 := n1_; have HB := n2_; clear n0_ n1_ n2_; (try clear hb); (try clear hb2); (try clear hk); (try clear hi); (try clear ho0)) | (go_at_call 37; (with_reducible refine (feast_Rest.calls 17 true _ A13.out).mono ?_); rintro e w' ⟨rfl, ⟨nd, rfl⟩⟩; (try first | exact ⟨rfl, _, World.drewN_drewN _ _ _⟩ | exact ⟨rfl, _, Eq.trans (World.drewN_drewN _ _ _) (congrArg (World.drewN _) (Nat.add_assoc _ _ _))⟩)) | (go_at_call 37; (with_reducible refine (feast_Rest.calls 14 t283 _ A15.out).mono ?_); rintro e w' ⟨rfl, ⟨nd, rfl⟩⟩; (try first | exact ⟨rfl, _, World.drewN_drewN _ _ _⟩ | exact ⟨rfl, _, Eq.trans (World.drewN_drewN _ _ _) (congrArg (World.drewN _) (Nat.add_assoc _ _ _))⟩)))
                  repeat (go_quiet (first | (go_at_call 33; (with_reducible refine (feast_Of.calls k1 5784 2 t278 t279 _ ?side1 A8.out).mono ?_); (case side1 => exact GlobT.below HGT (by repeat (first | (with_reducible first | exact HB.out | apply below_alloc | apply pw_below_drewN | apply below_drew1) | exact HB.out))); rintro e w17 ⟨v280, rfl, ho0, hb⟩; have n0_ := Aside0.mk (Kd.R_elder' (by (with_reducible repeat (first | apply Kd.R_alloc | apply Kd.R_drewN | apply Kd.R_drew)); exact HO_1.out) (Kd.R_base ho0) hb); have n1_ := Aside0.mk (Kd.R_lower (Kd.R_new' ho0 (Kd.R_lt (by (with_reducible repeat (first | apply Kd.R_alloc | apply Kd.R_drewN | apply Kd.R_drew)); exact HO_1.out))) (below_size (by repeat (first | (with_reducible first | exact HB.out | apply below_alloc | apply pw_below_drewN | apply below_drew1) | exact HB.out)))); have n2_ := Aside0.mk (below_step (by repeat (first | (with_reducible first | exact HB.out | apply below_alloc | apply pw_below_drewN | apply below_drew1) | exact HB.out)) hb); clear HO_1; clear HB; have HO_1 := n0_; have HO281 := n1_; have HB := n2_; clear n0_ n1_ n2_; (try clear hb); (try clear hb2); (try clear hk); (try clear hi); (try clear ho0)) | (go_at_call 37; (with_reducible refine (feast_Rest.calls 17 true _ A13.out).mono ?_); rintro e w' ⟨rfl, ⟨nd, rfl⟩⟩; (try first | exact ⟨rfl, _, World.drewN_drewN _ _ _⟩ | exact ⟨rfl, _, Eq.trans (World.drewN_drewN _ _ _) (congrArg (World.drewN _) (Nat.add_assoc _ _ _))⟩)) | (go_at_call 37; (with_reducible refine (feast_Rest.calls 14 t283 _ A15.out).mono ?_); rintro e w' ⟨rfl, ⟨nd, rfl⟩⟩; (try first | exact ⟨rfl, _, World.drewN_drewN _ _ _⟩ | exact ⟨rfl, _, Eq.trans (World.drewN_drewN _ _ _) (congrArg (World.drewN _) (Nat.add_assoc _ _ _))⟩))); try go_wp2_with (first | (go_at_call 33; (with_reducible refine (feast_Of.calls k1 5784 2 t278 t279 _ ?side1 A8.out).mono ?_); (case side1 => exact GlobT.below HGT (by repeat (first | (with_reducible first | exact HB.out | apply below_alloc | apply pw_below_drewN | apply below_drew1) | exact HB.out))); rintro e w17 ⟨v280, rfl, ho0, hb⟩; have n0_ := Aside0.mk (Kd.R_elder' (by (with_reducible repeat (first | apply Kd.R_alloc | apply Kd.R_drewN | apply Kd.R_drew)); exact HO_1.out) (Kd.R_base ho0) hb); have n1_ := Aside0.mk (Kd.R_lower (Kd.R_new' ho0 (Kd.R_lt (by (with_reducible repeat (first | apply Kd.R_alloc | apply Kd.R_drewN | apply Kd.R_drew)); exact HO_1.out))) (below_size (by repeat (first | (with_reducible first | exact HB.out | apply below_alloc | apply pw_below_drewN | apply below_drew1) | exact HB.out)))); have n2_ := Aside0.mk (below_step (by repeat (first | (with_reducible first | exact HB.out | apply below_alloc | apply pw_below_drewN | apply below_drew1) | exact HB.out)) hb); clear HO_1; clear HB; have HO_1 := n0_; have HO281 := n1_; have HB := n2_; clear n0_ n1_ n2_; (try clear hb); (try clear hb2); (try clear hk); (try clear hi); (try clear ho0)) | (go_at_call 37; (with_reducible refine (feast_Rest.calls 17 true _ A13.out).mono ?_); rintro e w' ⟨rfl, ⟨nd, rfl⟩⟩; (try first | exact ⟨rfl, _, World.drewN_drewN _ _ _⟩ | exact ⟨rfl, _, Eq.trans (World.drewN_drewN _ _ _) (congrArg (World.drewN _) (Nat.add_assoc _ _ _))⟩)) | (go_at_call 37; (with_reducible refine (feast_Rest.calls 14 t283 _ A15.out).mono ?_); rintro e w' ⟨rfl, ⟨nd, rfl⟩⟩; (try first | exact ⟨rfl, _, World.drewN_drewN _ _ _⟩ | exact ⟨rfl, _, Eq.trans (World.drewN_drewN _ _ _) (congrArg (World.drewN _) (Nat.add_assoc _ _ _))⟩))))
                  go_ret
                  exact ⟨by first | rfl | (simp [errW_none, errW_some] <;> rfl) | (simp [*, errW_none, errW_some] <;> rfl), by repeat (first | (with_reducible first | exact HB.out | apply below_alloc | apply pw_below_drewN | apply below_drew1) | exact HB.out)⟩
                · replace c14 := Bool.eq_false_iff.mpr c14
                  subst c14
                  have H1 : (some false) = some r := by rw [if_neg (show ¬ (false = true) by decide)] at H; exact H
                  clear H
                  have H := H1
                  clear H1
                  obtain rfl := Option.some.inj H
                  obtain ⟨Ao18, co18, eo18⟩ := Kd.R_slice HO_1.out
                  subst eo18
                  go_wp2_with (first | (go_at_call 33; (with_reducible refine (feast_Of.calls k1 5784 2 t278 t279 _ ?side1 A8.out).mono ?_); (case side1 => exact GlobT.below HGT (by repeat (first | (with_reducible first | exact HB.out | apply below_alloc | apply pw_below_drewN | apply below_drew1) | exact HB.out))); rintro e w19 ⟨v280, rfl, ho0, hb⟩; have n0_ := Aside0.mk (Kd.R_elder' (by (with_reducible repeat (first | apply Kd.R_alloc | apply Kd.R_drewN | apply Kd.R_drew)); exact HO_1.out) (Kd.R_base ho0) hb); have n1_ := Aside0.mk (Kd.R_lower (Kd.R_new' ho0 (Kd.R_lt (by (with_reducible repeat (first | apply Kd.R_alloc | apply Kd.R_drewN | apply Kd.R_drew)); exact HO_1.out))) (below_size (by repeat (first | (with_reducible first | exact HB.out | apply below_alloc | apply pw_below_drewN | apply below_drew1) | exact HB.out)))); have n2_ := Aside0.mk (below_step (by repeat (first | (with_reducible first | exact HB.out | apply below_alloc | apply pw_below_drewN | apply below_drew1) | exact HB.out)) hb); clear HO_1; clear HB; have HO_1 := n0_; have HO281 := n1_; have HB := n2_; clear n0_ n1_ n2_; (try clear hb); (try clear hb2); (try clear hk); (try clear hi); (try clear ho0)) | (go_at_call 37; (with_reducible refine (feast_Rest.calls 17 false _ A13.out).mono ?_); rintro e w' ⟨rfl, ⟨nd, rfl⟩⟩; (try first | exact ⟨rfl, _, World.drewN_drewN _ _ _⟩ | exact ⟨rfl, _, Eq.trans (World.drewN_drewN _ _ _) (congrArg (World.drewN _) (Nat.add_assoc _ _ _))⟩)))
                  repeat (go_quiet (first | (go_at_call 33; (with_reducible refine (feast_Of.calls k1 5784 2 t278 t279 _ ?side1 A8.out).mono ?_); (case side1 => exact GlobT.below HGT (by repeat (first | (with_reducible first | exact HB.out | apply below_alloc | apply pw_below_drewN | apply below_drew1) | exact HB.out))); rintro e w19 ⟨v280, rfl, ho0, hb⟩; have n0_ := Aside0.mk (Kd.R_elder' (by (with_reducible repeat (first | apply Kd.R_alloc | apply Kd.R_drewN | apply Kd.R_drew)); exact HO_1.out) (Kd.R_base ho0) hb); have n1_ := Aside0.mk (Kd.R_lower (Kd.R_new' ho0 (Kd.R_lt (by (with_reducible repeat (first | apply Kd.R_alloc | apply Kd.R_drewN | apply Kd.R_drew)); exact HO_1.out))) (below_size (by repeat (first | (with_reducible first | exact HB.out | apply below_alloc | apply pw_below_drewN | apply below_drew1) | exact HB.out)))); have n2_ := Aside0.mk (below_step (by repeat (first | (with_reducible first | exact HB.out | apply below_alloc | apply pw_below_drewN | apply below_drew1) | exact HB.out)) hb); clear HO_1; clear HB; have HO_1 := n0_; have HO281 := n1_; have HB := n2_; clear n0_ n1_ n2_; (try clear hb); (try clear hb2); (try clear hk); (try clear hi); (try clear ho0)) | (go_at_call 37; (with_reducible refine (feast_Rest.calls 17 false _ A13.out).mono ?_); rintro e w' ⟨rfl, ⟨nd, rfl⟩⟩; (try first | exact ⟨rfl, _, World.drewN_drewN _ _ _⟩ | exact ⟨rfl, _, Eq.trans (World.drewN_drewN _ _ _) (congrArg (World.drewN _) (Nat.add_assoc _ _ _))⟩))); try go_wp2_with (first | (go_at_call 33; (with_reducible refine (feast_Of.calls k1 5784 2 t278 t279 _ ?side1 A8.out).mono ?_); (case side1 => exact GlobT.below HGT (by repeat (first | (with_reducible first | exact HB.out | apply below_alloc | apply pw_below_drewN | apply below_drew1) | exact HB.out))); rintro e w19 ⟨v280, rfl, ho0, hb⟩; have n0_ := Aside0.mk (Kd.R_elder' (by (with_reducible repeat (first | apply Kd.R_alloc | apply Kd.R_drewN | apply Kd.R_drew)); exact HO_1.out) (Kd.R_base ho0) hb); have n1_ := Aside0.mk (Kd.R_lower (Kd.R_new' ho0 (Kd.R_lt (by (with_reducible repeat (first | apply Kd.R_alloc | apply Kd.R_drewN | apply Kd.R_drew)); exact HO_1.out))) (below_size (by repeat (first | (with_reducible first | exact HB.out | apply below_alloc | apply pw_below_drewN | apply below_drew1) | exact HB.out)))); have n2_ := Aside0.mk (below_step (by repeat (first | (with_reducible first | exact HB.out | apply below_alloc | apply pw_below_drewN | apply below_drew1) | exact HB.out)) hb); clear HO_1; clear HB; have HO_1 := n0_; have HO281 := n1_; have HB := n2_; clear n0_ n1_ n2_; (try clear hb); (try clear hb2); (try clear hk); (try clear hi); (try clear ho0)) | (go_at_call 37; (with_reducible refine (feast_Rest.calls 17 false _ A13.out).mono ?_); rintro e w' ⟨rfl, ⟨nd, rfl⟩⟩; (try first | exact ⟨rfl, _, World.drewN_drewN _ _ _⟩ | exact ⟨rfl, _, Eq.trans (World.drewN_drewN _ _ _) (congrArg (World.drewN _) (Nat.add_assoc _ _ _))⟩))))
                  go_ret
                  exact ⟨by first | rfl | (simp [errW_none, errW_some] <;> rfl) | (simp [*, errW_none, errW_some] <;> rfl), by repeat (first | (with_reducible first | exact HB.out | apply below_alloc | apply pw_below_drewN | apply below_drew1) | exact HB.out)⟩
              · rw [if_neg c12] at H
                have c12b0 : (t279 == 1) = false := beq_eq_false_iff_ne.mpr c12
                have c12b1 : (t279 != 1) = true := bne_iff_ne.mpr c12
                obtain rfl := Option.some.inj H
                obtain ⟨Ao20, co20, eo20⟩ := Kd.R_slice HO_1.out
                subst eo20
                go_wp2_with (first | (go_at_call 33; (with_reducible refine (feast_Of.calls k1 5784 2 t278 t279 _ ?side1 A8.out).mono ?_); (case side1 => exact GlobT.below HGT (by repeat (first | (with_reducible first | exact HB.out | apply below_alloc | apply pw_below_drewN | apply below_drew1) | exact HB.out))); rintro e w21 ⟨v280, rfl, ho0, hb⟩; have n0_ := Aside0.mk (Kd.R_elder' (by (with_reducible repeat (first | apply Kd.R_alloc | apply Kd.R_drewN | apply Kd.R_drew)); exact HO_1.out) (Kd.R_base ho0) hb); have n1_ := Aside0.mk (Kd.R_lower (Kd.R_new' ho0 (Kd.R_lt (by (with_reducible repeat (first | apply Kd.R_alloc | apply Kd.R_drewN | apply Kd.R_drew)); exact HO_1.out))) (below_size (by repeat (first | (with_reducible first | exact HB.out | apply below_alloc | apply pw_below_drewN | apply below_drew1) | exact HB.out)))); have n2_ := Aside0.mk (below_step (by repeat (first | (with_reducible first | exact HB.out | apply below_alloc | apply pw_below_drewN | apply below_drew1) | exact HB.out)) hb); clear HO_1; clear HB; have HO_1 := n0_; have HO281 := n1_; have HB := n2_; clear n0_ n1_ n2_; (try clear hb); (try clear hb2); (try clear hk); (try clear hi); (try clear ho0)))
                repeat (go_quiet (first | (go_at_call 33; (with_reducible refine (feast_Of.calls k1 5784 2 t278 t279 _ ?side1 A8.out).mono ?_); (case side1 => exact GlobT.below HGT (by repeat (first | (with_reducible first | exact HB.out | apply below_alloc | apply pw_below_drewN | apply below_drew1) | exact HB.out))); rintro e w21 ⟨v280, rfl, ho0, hb⟩; have n0_ := Aside0.mk (Kd.R_elder' (by (with_reducible repeat (first | apply Kd.R_alloc | apply Kd.R_drewN | apply Kd.R_drew)); exact HO_1.out) (Kd.R_base ho0) hb); have n1_ := Aside0.mk (Kd.R_lower (Kd.R_new' ho0 (Kd.R_lt (by (with_reducible repeat (first | apply Kd.R_alloc | apply Kd.R_drewN | apply Kd.R_drew)); exact HO_1.out))) (below_size (by repeat (first | (with_reducible first | exact HB.out | apply below_alloc | apply pw_below_drewN | apply below_drew1) | exact HB.out)))); have n2_ := Aside0.mk (below_step (by repeat (first | (with_reducible first | exact HB.out | apply below_alloc | apply pw_below_drewN | apply below_drew1) | exact HB.out)) hb); clear HO_1; clear HB; have HO_1 := n0_; have HO281 := n1_; have HB := n2_; clear n0_ n1_ n2_; (try clear hb); (try clear hb2); (try clear hk); (try clear hi); (try clear ho0))); try go_wp2_with (first | (go_at_call 33; (with_reducible refine (feast_Of.calls k1 5784 2 t278 t279 _ ?side1 A8.out).mono ?_); (case side1 => exact GlobT.below HGT (by repeat (first | (with_reducible first | exact HB.out | apply below_alloc | apply pw_below_drewN | apply below_drew1) | exact HB.out))); rintro e w21 ⟨v280, rfl, ho0, hb⟩; have n0_ := Aside0.mk (Kd.R_elder' (by (with_reducible repeat (first | apply Kd.R_alloc | apply Kd.R_drewN | apply Kd.R_drew)); exact HO_1.out) (Kd.R_base ho0) hb); have n1_ := Aside0.mk (Kd.R_lower (Kd.R_new' ho0 (Kd.R_lt (by (with_reducible repeat (first | apply Kd.R_alloc | apply Kd.R_drewN | apply Kd.R_drew)); exact HO_1.out))) (below_size (by repeat (first | (with_reducible first | exact HB.out | apply below_alloc | apply pw_below_drewN | apply below_drew1) | exact HB.out)))); have n2_ := Aside0.mk (below_step (by repeat (first | (with_reducible first | exact HB.out | apply below_alloc | apply pw_below_drewN | apply below_drew1) | exact HB.out)) hb); clear HO_1; clear HB; have HO_1 := n0_; have HO281 := n1_; have HB := n2_; clear n0_ n1_ n2_; (try clear hb); (try clear hb2); (try clear hk); (try clear hi); (try clear ho0))))
                go_ret
                exact ⟨by first | rfl | (simp [errW_none, errW_some] <;> rfl) | (simp [*, errW_none, errW_some] <;> rfl), by repeat (first | (with_reducible first | exact HB.out | apply below_alloc | apply pw_below_drewN | apply below_drew1) | exact HB.out)⟩
            · rw [if_neg c11] at H
              have c11b0 : (x4_1 == 739006) = false := beq_eq_false_iff_ne.mpr c11
              have c11b1 : (x4_1 != 739006) = true := bne_iff_ne.mpr c11
              obtain rfl := Option.some.inj H
              obtain ⟨Ao22, co22, eo22⟩ := Kd.R_slice HO_1.out
              subst eo22
              go_wp2_with (first | (go_at_call 33; (with_reducible refine (feast_Of.calls k1 5784 2 t278 t279 _ ?side1 A8.out).mono ?_); (case side1 => exact GlobT.below HGT (by repeat (first | (with_reducible first | exact HB.out | apply below_alloc | apply pw_below_drewN | apply below_drew1) | exact HB.out))); rintro e w23 ⟨v280, rfl, ho0, hb⟩; have n0_ := Aside0.mk (Kd.R_elder' (by (with_reducible repeat (first | apply Kd.R_alloc | apply Kd.R_drewN | apply Kd.R_drew)); exact HO_1.out) (Kd.R_base ho0) hb); have n1_ := Aside0.mk (Kd.R_lower (Kd.R_new' ho0 (Kd.R_lt (by (with_reducible repeat (first | apply Kd.R_alloc | apply Kd.R_drewN | apply Kd.R_drew)); exact HO_1.out))) (below_size (by repeat (first | (with_reducible first | exact HB.out | apply below_alloc | apply pw_below_drewN | apply below_drew1) | exact HB.out)))); have n2_ := Aside0.mk (below_step (by repeat (first | (with_reducible first | exact HB.out | apply below_alloc | apply pw_below_drewN | apply below_drew1) | exact HB.out)) hb); clear HO_1; clear HB; have HO_1 := n0_; have HO281 := n1_; have HB := n2_; clear n0_ n1_ n2_; (try clear hb); (try clear hb2); (try clear hk); (try clear hi); (try clear ho0)))
              repeat (go_quiet (first | (go_at_call 33; (with_reducible refine (feast_Of.calls k1 5784 2 t278 t279 _ ?side1 A8.out).mono ?_); (case side1 => exact GlobT.below HGT (by repeat (first | (with_reducible first | exact HB.out | apply below_alloc | apply pw_below_drewN | apply below_drew1) | exact HB.out))); rintro e w23 ⟨v280, rfl, ho0, hb⟩; have n0_ := Aside0.mk (Kd.R_elder' (by (with_reducible repeat (first | apply Kd.R_alloc | apply Kd.R_drewN | apply Kd.R_drew)); exact HO_1.out) (Kd.R_base ho0) hb); have n1_ := Aside0.mk (Kd.R_lower (Kd.R_new' ho0 (Kd.R_lt (by (with_reducible repeat (first | apply Kd.R_alloc | apply Kd.R_drewN | apply Kd.R_drew)); exact HO_1.out))) (below_size (by repeat (first | (with_reducible first | exact HB.out | apply below_alloc | apply pw_below_drewN | apply below_drew1) | exact HB.out)))); have n2_ := Aside0.mk (below_step (by repeat (first | (with_reducible first | exact HB.out | apply below_alloc | apply pw_below_drewN | apply below_drew1) | exact HB.out)) hb); clear HO_1; clear HB; have HO_1 := n0_; have HO281 := n1_; have HB := n2_; clear n0_ n1_ n2_; (try clear hb); (try clear hb2); (try clear hk); (try clear hi); (try clear ho0))); try go_wp2_with (first | (go_at_call 33; (with_reducible refine (feast_Of.calls k1 5784 2 t278 t279 _ ?side1 A8.out).mono ?_); (case side1 => exact GlobT.below HGT (by repeat (first | (with_reducible first | exact HB.out | apply below_alloc | apply pw_below_drewN | apply below_drew1) | exact HB.out))); rintro e w23 ⟨v280, rfl, ho0, hb⟩; have n0_ := Aside0.mk (Kd.R_elder' (by (with_reducible repeat (first | apply Kd.R_alloc | apply Kd.R_drewN | apply Kd.R_drew)); exact HO_1.out) (Kd.R_base ho0) hb); have n1_ := Aside0.mk (Kd.R_lower (Kd.R_new' ho0 (Kd.R_lt (by (with_reducible repeat (first | apply Kd.R_alloc | apply Kd.R_drewN | apply Kd.R_drew)); exact HO_1.out))) (below_size (by repeat (first | (with_reducible first | exact HB.out | apply below_alloc | apply pw_below_drewN | apply below_drew1) | exact HB.out)))); have n2_ := Aside0.mk (below_step (by repeat (first | (with_reducible first | exact HB.out | apply below_alloc | apply pw_below_drewN | apply below_drew1) | exact HB.out)) hb); clear HO_1; clear HB; have HO_1 := n0_; have HO281 := n1_; have HB := n2_; clear n0_ n1_ n2_; (try clear hb); (try clear hb2); (try clear hk); (try clear hi); (try clear ho0))))
              go_ret
              exact ⟨by first | rfl | (simp [errW_none, errW_some] <;> rfl) | (simp [*, errW_none, errW_some] <;> rfl), by repeat (first | (with_reducible first | exact HB.out | apply below_alloc | apply pw_below_drewN | apply below_drew1) | exact HB.out)⟩
          · rw [if_neg c10] at H
            have c10b0 : (x3_1 == 4) = false := beq_eq_false_iff_ne.mpr c10
            have c10b1 : (x3_1 != 4) = true := bne_iff_ne.mpr c10
            obtain rfl := Option.some.inj H
            obtain ⟨Ao24, co24, eo24⟩ := Kd.R_slice HO_1.out
            subst eo24
            go_wp2_with (first | (go_at_call 33; (with_reducible refine (feast_Of.calls k1 5784 2 t278 t279 _ ?side1 A8.out).mono ?_); (case side1 => exact GlobT.below HGT (by repeat (first | (with_reducible first | exact HB.out | apply below_alloc | apply pw_below_drewN | apply below_drew1) | exact HB.out))); rintro e w25 ⟨v280, rfl, ho0, hb⟩; have n0_ := Aside0.mk (Kd.R_elder' (by (with_reducible repeat (first | apply Kd.R_alloc | apply Kd.R_drewN | apply Kd.R_drew)); exact HO_1.out) (Kd.R_base ho0) hb); have n1_ := Aside0.mk (Kd.R_lower (Kd.R_new' ho0 (Kd.R_lt (by (with_reducible repeat (first | apply Kd.R_alloc | apply Kd.R_drewN | apply Kd.R_drew)); exact HO_1.out))) (below_size (by repeat (first | (with_reducible first | exact HB.out | apply below_alloc | apply pw_below_drewN | apply below_drew1) | exact HB.out)))); have n2_ := Aside0.mk (below_step (by repeat (first | (with_reducible first | exact HB.out | apply below_alloc | apply pw_below_drewN | apply below_drew1) | exact HB.out)) hb); clear HO_1; clear HB; have HO_1 := n0_; have HO281 := n1_; have HB := n2_; clear n0_ n1_ n2_; (try clear hb); (try clear hb2); (try clear hk); (try clear hi); (try clear ho0)))
            repeat (go_quiet (first | (go_at_call 33; (with_reducible refine (feast_Of.calls k1 5784 2 t278 t279 _ ?side1 A8.out).mono ?_); (case side1 => exact GlobT.below HGT (by repeat (first | (with_reducible first | exact HB.out | apply below_alloc | apply pw_below_drewN | apply below_drew1) | exact HB.out))); rintro e w25 ⟨v280, rfl, ho0, hb⟩; have n0_ := Aside0.mk (Kd.R_elder' (by (with_reducible repeat (first | apply Kd.R_alloc | apply Kd.R_drewN | apply Kd.R_drew)); exact HO_1.out) (Kd.R_base ho0) hb); have n1_ := Aside0.mk (Kd.R_lower (Kd.R_new' ho0 (Kd.R_lt (by (with_reducible repeat (first | apply Kd.R_alloc | apply Kd.R_drewN | apply Kd.R_drew)); exact HO_1.out))) (below_size (by repeat (first | (with_reducible first | exact HB.out | apply below_alloc | apply pw_below_drewN | apply below_drew1) | exact HB.out)))); have n2_ := Aside0.mk (below_step (by repeat (first | (with_reducible first | exact HB.out | apply below_alloc | apply pw_below_drewN | apply below_drew1) | exact HB.out)) hb); clear HO_1; clear HB; have HO_1 := n0_; have HO281 := n1_; have HB := n2_; clear n0_ n1_ n2_; (try clear hb); (try clear hb2); (try clear hk); (try clear hi); (try clear ho0))); try go_wp2_with (first | (go_at_call 33; (with_reducible refine (feast_Of.calls k1 5784 2 t278 t279 _ ?side1 A8.out).mono ?_); (case side1 => exact GlobT.below HGT (by repeat (first | (with_reducible first | exact HB.out | apply below_alloc | apply pw_below_drewN | apply below_drew1) | exact HB.out))); rintro e w25 ⟨v280, rfl, ho0, hb⟩; have n0_ := Aside0.mk (Kd.R_elder' (by (with_reducible repeat (first | apply Kd.R_alloc | apply Kd.R_drewN | apply Kd.R_drew)); exact HO_1.out) (Kd.R_base ho0) hb); have n1_ := Aside0.mk (Kd.R_lower (Kd.R_new' ho0 (Kd.R_lt (by (with_reducible repeat (first | apply Kd.R_alloc | apply Kd.R_drewN | apply Kd.R_drew)); exact HO_1.out))) (below_size (by repeat (first | (with_reducible first | exact HB.out | apply below_alloc | apply pw_below_drewN | apply below_drew1) | exact HB.out)))); have n2_ := Aside0.mk (below_step (by repeat (first | (with_reducible first | exact HB.out | apply below_alloc | apply pw_below_drewN | apply below_drew1) | exact HB.out)) hb); clear HO_1; clear HB; have HO_1 := n0_; have HO281 := n1_; have HB := n2_; clear n0_ n1_ n2_; (try clear hb); (try clear hb2); (try clear hk); (try clear hi); (try clear ho0))))
            go_ret
            exact ⟨by first | rfl | (simp [errW_none, errW_some] <;> rfl) | (simp [*, errW_none, errW_some] <;> rfl), by repeat (first | (with_reducible first | exact HB.out | apply below_alloc | apply pw_below_drewN | apply below_drew1) | exact HB.out)⟩
        · rw [if_neg c9] at H
          have c9b0 : (t273 == 0) = false := beq_eq_false_iff_ne.mpr c9
          have c9b1 : (t273 != 0) = true := bne_iff_ne.mpr c9
          obtain rfl := Option.some.inj H
          obtain ⟨Ao26, co26, eo26⟩ := Kd.R_slice HO_1.out
          subst eo26
          go_wp2_with (first | (go_at_call 33; (with_reducible refine (feast_Of.calls k1 5784 2 t278 t279 _ ?side1 A8.out).mono ?_); (case side1 => exact GlobT.below HGT (by repeat (first | (with_reducible first | exact HB.out | apply below_alloc | apply pw_below_drewN | apply below_drew1) | exact HB.out))); rintro e w27 ⟨v280, rfl, ho0, hb⟩; have n0_ := Aside0.mk (Kd.R_elder' (by (with_reducible repeat (first | apply Kd.R_alloc | apply Kd.R_drewN | apply Kd.R_drew)); exact HO_1.out) (Kd.R_base ho0) hb); have n1_ := Aside0.mk (Kd.R_lower (Kd.R_new' ho0 (Kd.R_lt (by (with_reducible repeat (first | apply Kd.R_alloc | apply Kd.R_drewN | apply Kd.R_drew)); exact HO_1.out))) (below_size (by repeat (first | (with_reducible first | exact HB.out | apply below_alloc | apply pw_below_drewN | apply below_drew1) | exact HB.out)))); have n2_ := Aside0.mk (below_step (by repeat (first | (with_reducible first | exact HB.out | apply below_alloc | apply pw_below_drewN | apply below_drew1) | exact HB.out)) hb); clear HO_1; clear HB; have HO_1 := n0_; have HO281 := n1_; have HB := n2_; clear n0_ n1_ n2_; (try clear hb); (try clear hb2); (try clear hk); (try clear hi); (try clear ho0)))
          repeat (go_quiet (first | (go_at_call 33; (with_reducible refine (feast_Of.calls k1 5784 2 t278 t279 _ ?side1 A8.out).mono ?_); (case side1 => exact GlobT.below HGT (by repeat (first | (with_reducible first | exact HB.out | apply below_alloc | apply pw_below_drewN | apply below_drew1) | exact HB.out))); rintro e w27 ⟨v280, rfl, ho0, hb⟩; have n0_ := Aside0.mk (Kd.R_elder' (by (with_reducible repeat (first | apply Kd.R_alloc | apply Kd.R_drewN | apply Kd.R_drew)); exact HO_1.out) (Kd.R_base ho0) hb); have n1_ := Aside0.mk (Kd.R_lower (Kd.R_new' ho0 (Kd.R_lt (by (with_reducible repeat (first | apply Kd.R_alloc | apply Kd.R_drewN | apply Kd.R_drew)); exact HO_1.out))) (below_size (by repeat (first | (with_reducible first | exact HB.out | apply below_alloc | apply pw_below_drewN | apply below_drew1) | exact HB.out)))); have n2_ := Aside0.mk (below_step (by repeat (first | (with_reducible first | exact HB.out | apply below_alloc | apply pw_below_drewN | apply below_drew1) | exact HB.out)) hb); clear HO_1; clear HB; have HO_1 := n0_; have HO281 := n1_; have HB := n2_; clear n0_ n1_ n2_; (try clear hb); (try clear hb2); (try clear hk); (try clear hi); (try clear ho0))); try go_wp2_with (first | (go_at_call 33; (with_reducible refine (feast_Of.calls k1 5784 2 t278 t279 _ ?side1 A8.out).mono ?_); (case side1 => exact GlobT.below HGT (by repeat (first | (with_reducible first | exact HB.out | apply below_alloc | apply pw_below_drewN | apply below_drew1) | exact HB.out))); rintro e w27 ⟨v280, rfl, ho0, hb⟩; have n0_ := Aside0.mk (Kd.R_elder' (by (with_reducible repeat (first | apply Kd.R_alloc | apply Kd.R_drewN | apply Kd.R_drew)); exact HO_1.out) (Kd.R_base ho0) hb); have n1_ := Aside0.mk (Kd.R_lower (Kd.R_new' ho0 (Kd.R_lt (by (with_reducible repeat (first | apply Kd.R_alloc | apply Kd.R_drewN | apply Kd.R_drew)); exact HO_1.out))) (below_size (by repeat (first | (with_reducible first | exact HB.out | apply below_alloc | apply pw_below_drewN | apply below_drew1) | exact HB.out)))); have n2_ := Aside0.mk (below_step (by repeat (first | (with_reducible first | exact HB.out | apply below_alloc | apply pw_below_drewN | apply below_drew1) | exact HB.out)) hb); clear HO_1; clear HB; have HO_1 := n0_; have HO281 := n1_; have HB := n2_; clear n0_ n1_ n2_; (try clear hb); (try clear hb2); (try clear hk); (try clear hi); (try clear ho0))))
          go_ret
          exact ⟨by first | rfl | (simp [errW_none, errW_some] <;> rfl) | (simp [*, errW_none, errW_some] <;> rfl), by repeat (first | (with_reducible first | exact HB.out | apply below_alloc | apply pw_below_drewN | apply below_drew1) | exact HB.out)⟩

end Go.Proofs.YtflpddhoiafhcaaDoor.P
end
