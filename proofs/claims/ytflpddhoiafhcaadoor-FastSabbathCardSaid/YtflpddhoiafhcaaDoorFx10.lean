-- Written by wip/hprint.py of this repo (holes typed by hand, all else by a program) over the seat YtflpddhoiafhcaaDoor.
import Derived.Test.YtflpddhoiafhcaaDoorFx0
import Derived.Test.YtflpddhoiafhcaaDoorFx8
import Derived.Test.YtflpddhoiafhcaaDoorFx9
namespace Go.Proofs.YtflpddhoiafhcaaDoor.F
open Go.Proofs.YtflpddhoiafhcaaDoor.H
open Go.RowKit Go.Proofs.YtflpddhoiafhcaaDoorW.PrintWords Go.Proofs.YtflpddhoiafhcaaDoorW.PrintLast Go.Proofs.YtflpddhoiafhcaaDoorW.PrintMore
attribute [local go_sem] max2_int min2_int max_two min_two max_three min_three max_four min_four   -- for this text's walks alone
set_option linter.unusedVariables false
set_option linter.unusedSimpArgs false

/-! ### almanackerlaw20_FastSabbath: function 6 -/
mutual
def almanackerlaw20_FastSabbath.j0 : Nat → List (S48) → Bool → Option (Bool)
  | 0, _, _ => none
  | k + 1, x4, x24 => if x24 = true then (some false) else (almanackerlaw20_FastSabbath.l0 k x4 0)
def almanackerlaw20_FastSabbath.l0 : Nat → List (S48) → Int → Option (Bool)
  | 0, _, _ => none
  | k + 1, x4, x6 => if x6 < (x4.length : Int) then (if 0 ≤ x6 then ((almanackerref04_Weekday.f ((rd_T48 x4 x6).f1)).bind fun t207 => (if t207 = 6 then (almanackerlaw20_FastSabbath.j2 k x4 x6 t207 (((rd_T48 x4 x6).f0) != 24)) else (almanackerlaw20_FastSabbath.j2 k x4 x6 t207 false))) else (none)) else ((almanackerlaw20_awake.f k).bind fun t205 => (some t205))
def almanackerlaw20_FastSabbath.j2 : Nat → List (S48) → Int → Int → Bool → Option (Bool)
  | 0, _, _, _, _ => none
  | k + 1, x4, x6, x7, x46 => if x46 = true then (some false) else (if 0 ≤ x6 then (if x6 < (x4.length : Int) then (if ((rd_T48 x4 x6).f0) = 21 then (if x7 = 2 then (almanackerlaw20_FastSabbath.j3 k x4 x6 false) else (if x7 = 3 then (almanackerlaw20_FastSabbath.j3 k x4 x6 false) else (almanackerlaw20_FastSabbath.j3 k x4 x6 (x7 != 4)))) else (almanackerlaw20_FastSabbath.j3 k x4 x6 false)) else (none)) else (none))
def almanackerlaw20_FastSabbath.j3 : Nat → List (S48) → Int → Bool → Option (Bool)
  | 0, _, _, _ => none
  | k + 1, x4, x6, x64 => if x64 = true then (some false) else (almanackerlaw20_FastSabbath.l1 k x4 x6 0)
def almanackerlaw20_FastSabbath.l1 : Nat → List (S48) → Int → Int → Option (Bool)
  | 0, _, _, _ => none
  | k + 1, x4, x6, x8 => if x8 < x6 then (if 0 ≤ x8 then (if x8 < (x4.length : Int) then (if 0 ≤ x6 then (if x6 < (x4.length : Int) then (if ((rd_T48 x4 x8).f0) = ((rd_T48 x4 x6).f0) then (some false) else (if ((rd_T48 x4 x8).f1) > ((rd_T48 x4 x6).f1) then (some false) else (almanackerlaw20_FastSabbath.l1 k x4 x6 (wrap64 (x8 + 1))))) else (none)) else (none)) else (none)) else (none)) else (almanackerlaw20_FastSabbath.l0 k x4 (wrap64 (x6 + 1)))
end
def almanackerlaw20_FastSabbath.f (k : Nat) (a0 : Int) : Option (Bool) := (fast_Of.f (wrap64 (1 + (Int.tmod (wrap64 (a0)) 9999)))).bind fun bt201 => (if bt201.2 = 0 then (almanackerlaw20_FastSabbath.j0 k bt201.1 ((bt201.1.length : Int) != 10)) else (almanackerlaw20_FastSabbath.j0 k bt201.1 true))
theorem almanackerlaw20_FastSabbath.mono_l : ∀ k, (∀ y0 y1, LeO (almanackerlaw20_FastSabbath.j0 k y0 y1) (almanackerlaw20_FastSabbath.j0 (k + 1) y0 y1)) ∧ (∀ y0 y1, LeO (almanackerlaw20_FastSabbath.l0 k y0 y1) (almanackerlaw20_FastSabbath.l0 (k + 1) y0 y1)) ∧ (∀ y0 y1 y2 y3, LeO (almanackerlaw20_FastSabbath.j2 k y0 y1 y2 y3) (almanackerlaw20_FastSabbath.j2 (k + 1) y0 y1 y2 y3)) ∧ (∀ y0 y1 y2, LeO (almanackerlaw20_FastSabbath.j3 k y0 y1 y2) (almanackerlaw20_FastSabbath.j3 (k + 1) y0 y1 y2)) ∧ (∀ y0 y1 y2, LeO (almanackerlaw20_FastSabbath.l1 k y0 y1 y2) (almanackerlaw20_FastSabbath.l1 (k + 1) y0 y1 y2))
  | 0 => ⟨fun _ _ r h => by simp [almanackerlaw20_FastSabbath.j0] at h, fun _ _ r h => by simp [almanackerlaw20_FastSabbath.l0] at h, fun _ _ _ _ r h => by simp [almanackerlaw20_FastSabbath.j2] at h, fun _ _ _ r h => by simp [almanackerlaw20_FastSabbath.j3] at h, fun _ _ _ r h => by simp [almanackerlaw20_FastSabbath.l1] at h⟩
  | k + 1 => by
    obtain ⟨ih0, ih1, ih2, ih3, ih4⟩ := almanackerlaw20_FastSabbath.mono_l k
    refine ⟨?_, ?_, ?_, ?_, ?_⟩
    · intro y0 y1
      unfold almanackerlaw20_FastSabbath.j0
      repeat' first
      | (with_reducible exact ih0 _ _)
      | (with_reducible exact ih1 _ _)
      | (with_reducible exact ih2 _ _ _ _)
      | (with_reducible exact ih3 _ _ _)
      | (with_reducible exact ih4 _ _ _)
      | (with_reducible exact almanackerlaw20_awake.mono _)
      | (with_reducible exact LeO.refl _)
      | (with_reducible exact LeO.none _)
      | (with_reducible refine LeO.ite ?_ ?_)
      | (with_reducible refine LeO.bind ?_ (fun _ => ?_))
      | exact ih0 _ _
      | exact ih1 _ _
      | exact ih2 _ _ _ _
      | exact ih3 _ _ _
      | exact ih4 _ _ _
      | exact almanackerlaw20_awake.mono _
      | exact LeO.none _
      | refine LeO.ite ?_ ?_
      | refine LeO.bind ?_ (fun _ => ?_)
    · intro y0 y1
      unfold almanackerlaw20_FastSabbath.l0
      repeat' first
      | (with_reducible exact ih0 _ _)
      | (with_reducible exact ih1 _ _)
      | (with_reducible exact ih2 _ _ _ _)
      | (with_reducible exact ih3 _ _ _)
      | (with_reducible exact ih4 _ _ _)
      | (with_reducible exact almanackerlaw20_awake.mono _)
      | (with_reducible exact LeO.refl _)
      | (with_reducible exact LeO.none _)
      | (with_reducible refine LeO.ite ?_ ?_)
      | (with_reducible refine LeO.bind ?_ (fun _ => ?_))
      | exact ih0 _ _
      | exact ih1 _ _
      | exact ih2 _ _ _ _
      | exact ih3 _ _ _
      | exact ih4 _ _ _
      | exact almanackerlaw20_awake.mono _
      | exact LeO.none _
      | refine LeO.ite ?_ ?_
      | refine LeO.bind ?_ (fun _ => ?_)
    · intro y0 y1 y2 y3
      unfold almanackerlaw20_FastSabbath.j2
      repeat' first
      | (with_reducible exact ih0 _ _)
      | (with_reducible exact ih1 _ _)
      | (with_reducible exact ih2 _ _ _ _)
      | (with_reducible exact ih3 _ _ _)
      | (with_reducible exact ih4 _ _ _)
      | (with_reducible exact almanackerlaw20_awake.mono _)
      | (with_reducible exact LeO.refl _)
      | (with_reducible exact LeO.none _)
      | (with_reducible refine LeO.ite ?_ ?_)
      | (with_reducible refine LeO.bind ?_ (fun _ => ?_))
      | exact ih0 _ _
      | exact ih1 _ _
      | exact ih2 _ _ _ _
      | exact ih3 _ _ _
      | exact ih4 _ _ _
      | exact almanackerlaw20_awake.mono _
      | exact LeO.none _
      | refine LeO.ite ?_ ?_
      | refine LeO.bind ?_ (fun _ => ?_)
    · intro y0 y1 y2
      unfold almanackerlaw20_FastSabbath.j3
      repeat' first
      | (with_reducible exact ih0 _ _)
      | (with_reducible exact ih1 _ _)
      | (with_reducible exact ih2 _ _ _ _)
      | (with_reducible exact ih3 _ _ _)
      | (with_reducible exact ih4 _ _ _)
      | (with_reducible exact almanackerlaw20_awake.mono _)
      | (with_reducible exact LeO.refl _)
      | (with_reducible exact LeO.none _)
      | (with_reducible refine LeO.ite ?_ ?_)
      | (with_reducible refine LeO.bind ?_ (fun _ => ?_))
      | exact ih0 _ _
      | exact ih1 _ _
      | exact ih2 _ _ _ _
      | exact ih3 _ _ _
      | exact ih4 _ _ _
      | exact almanackerlaw20_awake.mono _
      | exact LeO.none _
      | refine LeO.ite ?_ ?_
      | refine LeO.bind ?_ (fun _ => ?_)
    · intro y0 y1 y2
      unfold almanackerlaw20_FastSabbath.l1
      repeat' first
      | (with_reducible exact ih0 _ _)
      | (with_reducible exact ih1 _ _)
      | (with_reducible exact ih2 _ _ _ _)
      | (with_reducible exact ih3 _ _ _)
      | (with_reducible exact ih4 _ _ _)
      | (with_reducible exact almanackerlaw20_awake.mono _)
      | (with_reducible exact LeO.refl _)
      | (with_reducible exact LeO.none _)
      | (with_reducible refine LeO.ite ?_ ?_)
      | (with_reducible refine LeO.bind ?_ (fun _ => ?_))
      | exact ih0 _ _
      | exact ih1 _ _
      | exact ih2 _ _ _ _
      | exact ih3 _ _ _
      | exact ih4 _ _ _
      | exact almanackerlaw20_awake.mono _
      | exact LeO.none _
      | refine LeO.ite ?_ ?_
      | refine LeO.bind ?_ (fun _ => ?_)
theorem almanackerlaw20_FastSabbath.mono : ∀ a0 k, LeO (almanackerlaw20_FastSabbath.f k a0) (almanackerlaw20_FastSabbath.f (k + 1) a0) := by
  intro a0 k
  obtain ⟨ih0, ih1, ih2, ih3, ih4⟩ := almanackerlaw20_FastSabbath.mono_l k
  unfold almanackerlaw20_FastSabbath.f
  repeat' first
      | (with_reducible exact ih0 _ _)
      | (with_reducible exact ih1 _ _)
      | (with_reducible exact ih2 _ _ _ _)
      | (with_reducible exact ih3 _ _ _)
      | (with_reducible exact ih4 _ _ _)
      | (with_reducible exact almanackerlaw20_awake.mono _)
      | (with_reducible exact LeO.refl _)
      | (with_reducible exact LeO.none _)
      | (with_reducible refine LeO.ite ?_ ?_)
      | (with_reducible refine LeO.bind ?_ (fun _ => ?_))
      | exact ih0 _ _
      | exact ih1 _ _
      | exact ih2 _ _ _ _
      | exact ih3 _ _ _
      | exact ih4 _ _ _
      | exact almanackerlaw20_awake.mono _
      | exact LeO.none _
      | refine LeO.ite ?_ ?_
      | refine LeO.bind ?_ (fun _ => ?_)
set_option maxHeartbeats 8000000 in
set_option maxRecDepth 100000 in
theorem almanackerlaw20_FastSabbath.calls (k : Nat) (a0 : Int) (r : Bool) (w : World) (HGT : GlobT w) (h : almanackerlaw20_FastSabbath.f k a0 = some r) :
    Calls Tryd.prog 6 #[.int .u16 a0] w fun e w' => e = .returned (.bool r) ∧ Below w.heap.size w w' := by
  have HB := Aside0.mk (Below.refl w.heap.size w)
  have H : ((fast_Of.f (wrap64 (1 + (Int.tmod (wrap64 (a0)) 9999)))).bind fun bt201 => (if bt201.2 = 0 then (almanackerlaw20_FastSabbath.j0 k bt201.1 ((bt201.1.length : Int) != 10)) else (almanackerlaw20_FastSabbath.j0 k bt201.1 true))) = some r := h
  clear h
  replace H := Option.bind_eq_some_iff.mp H
  obtain ⟨⟨t201, t202⟩, A20, H⟩ := H
  replace H : (if t202 = 0 then (almanackerlaw20_FastSabbath.j0 k t201 ((t201.length : Int) != 10)) else (almanackerlaw20_FastSabbath.j0 k t201 true)) = some r := H
  have A2 := Aside0.mk A20
  clear A20
  have HC3 := Aside0.mk H
  clear H
  go_enter Tryd.func6, Tryd.ntmps6
  go_upto_region 3 with (first | (go_at_call 26; (with_reducible refine (fast_Of.calls (wrap64 (1 + (Int.tmod (wrap64 (a0)) 9999))) t201 t202 _ ?side1 A2.out).mono ?_); (case side1 => exact GlobT.below HGT (by repeat (first | (with_reducible first | exact HB.out | apply below_alloc | apply pw_below_drewN | apply below_drew1) | exact HB.out))); rintro e w4 ⟨v203, rfl, ho0, hb⟩; have n0_ := Aside0.mk (Kd.R_lower ho0 (below_size (by repeat (first | (with_reducible first | exact HB.out | apply below_alloc | apply pw_below_drewN | apply below_drew1) | exact HB.out)))); have n1_ := Aside0.mk (below_step (by repeat (first | (with_reducible first | exact HB.out | apply below_alloc | apply pw_below_drewN | apply below_drew1) | exact HB.out)) hb); clear HB; have HO204 := n0_; have HB := n1_; clear n0_ n1_; (try clear hb); (try clear hb2); (try clear hk); (try clear hi); (try clear ho0)))
  repeat (go_quiet (first | (go_at_call 26; (with_reducible refine (fast_Of.calls (wrap64 (1 + (Int.tmod (wrap64 (a0)) 9999))) t201 t202 _ ?side1 A2.out).mono ?_); (case side1 => exact GlobT.below HGT (by repeat (first | (with_reducible first | exact HB.out | apply below_alloc | apply pw_below_drewN | apply below_drew1) | exact HB.out))); rintro e w4 ⟨v203, rfl, ho0, hb⟩; have n0_ := Aside0.mk (Kd.R_lower ho0 (below_size (by repeat (first | (with_reducible first | exact HB.out | apply below_alloc | apply pw_below_drewN | apply below_drew1) | exact HB.out)))); have n1_ := Aside0.mk (below_step (by repeat (first | (with_reducible first | exact HB.out | apply below_alloc | apply pw_below_drewN | apply below_drew1) | exact HB.out)) hb); clear HB; have HO204 := n0_; have HB := n1_; clear n0_ n1_; (try clear hb); (try clear hb2); (try clear hk); (try clear hi); (try clear ho0))); go_upto_region 3 with (first | (go_at_call 26; (with_reducible refine (fast_Of.calls (wrap64 (1 + (Int.tmod (wrap64 (a0)) 9999))) t201 t202 _ ?side1 A2.out).mono ?_); (case side1 => exact GlobT.below HGT (by repeat (first | (with_reducible first | exact HB.out | apply below_alloc | apply pw_below_drewN | apply below_drew1) | exact HB.out))); rintro e w4 ⟨v203, rfl, ho0, hb⟩; have n0_ := Aside0.mk (Kd.R_lower ho0 (below_size (by repeat (first | (with_reducible first | exact HB.out | apply below_alloc | apply pw_below_drewN | apply below_drew1) | exact HB.out)))); have n1_ := Aside0.mk (below_step (by repeat (first | (with_reducible first | exact HB.out | apply below_alloc | apply pw_below_drewN | apply below_drew1) | exact HB.out)) hb); clear HB; have HO204 := n0_; have HB := n1_; clear n0_ n1_; (try clear hb); (try clear hb2); (try clear hk); (try clear hi); (try clear ho0))))
  (try simp only [Act.put, List.setIfInBounds_toArray, List.set_cons_zero, List.set_cons_succ])
  go_cut [24] (fun v24 wc => ∃ (kq : Nat) (x24_2 : Bool), v24 = .bool x24_2 ∧ Aside0 (almanackerlaw20_FastSabbath.j0 kq t201 x24_2 = some r) ∧ Aside0 (kq ≤ k) ∧ Aside0 (Kd.R k48 48 wc w.heap.size (fun _ => True) v203 t201) ∧ Aside0 (Below w.heap.size w wc))
  case first =>
    have H := HC3.out
    clear HC3
    by_cases c5 : t202 = 0
    · rw [if_pos c5] at H
      have c5b0 : (t202 == 0) = true := beq_iff_eq.mpr c5
      have c5b1 : (t202 != 0) = false := bne_eq_false_iff_eq.mpr c5
      clear c5
      (first | rw [c5b0] | (simp only [i64_w, i32_w]; rw [c5b0]) | skip)
      have H' := Aside0.mk H
      clear H
      obtain ⟨Ao6, co6, eo6⟩ := Kd.R_slice HO204.out
      subst eo6
      go_wp2
      repeat (go_quiet (fail); try go_wp2)
      go_meet
      case rel => exact ⟨_, (((t201.length : Int) != 10)), (by first | rfl | (simp; done) | (simp [*]; done)), H', ⟨by first | omega | exact Nat.le_refl _⟩, ⟨by (with_reducible repeat (first | apply Kd.R_alloc | apply Kd.R_drewN | apply Kd.R_drew)); exact HO204.out⟩, ⟨by repeat (first | (with_reducible first | exact HB.out | apply below_alloc | apply pw_below_drewN | apply below_drew1) | exact HB.out)⟩⟩
    · rw [if_neg c5] at H
      have c5b0 : (t202 == 0) = false := beq_eq_false_iff_ne.mpr c5
      have c5b1 : (t202 != 0) = true := bne_iff_ne.mpr c5
      (first | rw [c5b0] | (simp only [i64_w, i32_w]; rw [c5b0]) | skip)
      have H' := Aside0.mk H
      clear H
      go_wp2
      repeat (go_quiet (fail); try go_wp2)
      go_meet
      case rel => exact ⟨_, (true), (by first | rfl | (simp; done) | (simp [*]; done)), H', ⟨by first | omega | exact Nat.le_refl _⟩, ⟨by (with_reducible repeat (first | apply Kd.R_alloc | apply Kd.R_drewN | apply Kd.R_drew)); exact HO204.out⟩, ⟨by repeat (first | (with_reducible first | exact HB.out | apply below_alloc | apply pw_below_drewN | apply below_drew1) | exact HB.out)⟩⟩
  case rest =>
    clear HC3
    try clear p2
    try clear c5
    try clear c5b0
    try clear c5b1
    try clear c6
    try clear p6
    obtain ⟨kq, x24_2, rfl, HA, HJ2, HO_4, HB⟩ := hcut
    cases kq with
    | zero => exact absurd HA.out (by simp [almanackerlaw20_FastSabbath.j0])
    | succ kj2 =>
      have H := HA.out
      clear HA
      simp only [almanackerlaw20_FastSabbath.j0] at H
      by_cases c7 : x24_2 = true
      · subst c7
        have H1 : (some false) = some r := by rw [if_pos rfl] at H; exact H
        clear H
        have H := H1
        clear H1
        obtain rfl := Option.some.inj H
        go_wp2
        repeat (go_quiet (fail); try go_wp2)
        go_ret
        exact ⟨by first | rfl | (simp [errW_none, errW_some] <;> rfl) | (simp [*, errW_none, errW_some] <;> rfl), by repeat (first | (with_reducible first | exact HB.out | apply below_alloc | apply pw_below_drewN | apply below_drew1) | exact HB.out)⟩
      · replace c7 := Bool.eq_false_iff.mpr c7
        subst c7
        have H1 : (almanackerlaw20_FastSabbath.l0 kj2 t201 0) = some r := by rw [if_neg (show ¬ (false = true) by decide)] at H; exact H
        clear H
        have H := H1
        clear H1
        have H' := Aside0.mk H
        clear H
        go_wp2
        repeat (go_quiet (fail); try go_wp2)
        go_loopg [6] kj2 (fun kq v6 w' => ∃ (x6_2 : Int), v6 = .int .i64 x6_2 ∧ Aside0 (almanackerlaw20_FastSabbath.l0 kq t201 x6_2 = some r) ∧ Aside0 (kq ≤ kj2) ∧ Aside0 (Kd.R k48 48 w' w.heap.size (fun _ => True) v203 t201) ∧ Aside0 (Below w.heap.size w w'))
        case atStart => exact ⟨(0), (by first | rfl | (simp; done) | (simp [*]; done)), H', ⟨Nat.le_refl _⟩, ⟨by (with_reducible repeat (first | apply Kd.R_alloc | apply Kd.R_drewN | apply Kd.R_drew)); exact HO_4.out⟩, ⟨by repeat (first | (with_reducible first | exact HB.out | apply below_alloc | apply pw_below_drewN | apply below_drew1) | exact HB.out)⟩⟩
        case round =>
          clear H'
          try clear p2
          try clear c5
          try clear c5b0
          try clear c5b1
          try clear c6
          try clear p6
          try clear c7
          try clear p2
          try clear p6
          obtain ⟨x6_2, rfl, HA, HK2, HO_4, HB⟩ := hrel
          cases gk with
          | zero => exact absurd HA.out (by simp [almanackerlaw20_FastSabbath.l0])
          | succ k2 =>
            have H := HA.out
            clear HA
            simp only [almanackerlaw20_FastSabbath.l0] at H
            by_cases c8 : x6_2 < (t201.length : Int)
            · rw [if_pos c8] at H
              have c8b0 : decide (x6_2 < (t201.length : Int)) = true := decide_eq_true c8
              clear c8
              by_cases c9 : 0 ≤ x6_2
              · rw [if_pos c9] at H
                have c9b0 : decide (0 ≤ x6_2) = true := decide_eq_true c9
                clear c9
                replace H := Option.bind_eq_some_iff.mp H
                obtain ⟨t207, A100, H⟩ := H
                replace H : (if t207 = 6 then (almanackerlaw20_FastSabbath.j2 k2 t201 x6_2 t207 (((rd_T48 t201 x6_2).f0) != 24)) else (almanackerlaw20_FastSabbath.j2 k2 t201 x6_2 t207 false)) = some r := H
                have A10 := Aside0.mk A100
                clear A100
                have HC11 := Aside0.mk H
                clear H
                obtain ⟨Ao12, co12, eo12⟩ := Kd.R_slice HO_4.out
                subst eo12
                have p206 : 0 ≤ (x6_2 : Int) := of_decide_eq_true (by first | (with_reducible assumption) | assumption)
                have q206 : x6_2 < (t201.length : Int) := of_decide_eq_true (by first | (with_reducible assumption) | assumption)
                obtain ⟨ad206, e206, hx206_0, hx206_1⟩ := at_T48 (Kd.R_reads' HO_4.out).2.2 x6_2 p206 q206
                cases e206
                replace p206 := eq_true p206
                replace q206 := eq_true q206
                go_upto_region 9 with (first | (go_at_call 32; (with_reducible refine (almanackerref04_Weekday.calls ((rd_T48 t201 x6_2).f1) t207 _ A10.out).mono ?_); rintro e w' ⟨rfl, ⟨nd, rfl⟩⟩; (try first | exact ⟨rfl, _, World.drewN_drewN _ _ _⟩ | exact ⟨rfl, _, Eq.trans (World.drewN_drewN _ _ _) (congrArg (World.drewN _) (Nat.add_assoc _ _ _))⟩)))
                repeat (go_quiet (first | (go_at_call 32; (with_reducible refine (almanackerref04_Weekday.calls ((rd_T48 t201 x6_2).f1) t207 _ A10.out).mono ?_); rintro e w' ⟨rfl, ⟨nd, rfl⟩⟩; (try first | exact ⟨rfl, _, World.drewN_drewN _ _ _⟩ | exact ⟨rfl, _, Eq.trans (World.drewN_drewN _ _ _) (congrArg (World.drewN _) (Nat.add_assoc _ _ _))⟩))); go_upto_region 9 with (first | (go_at_call 32; (with_reducible refine (almanackerref04_Weekday.calls ((rd_T48 t201 x6_2).f1) t207 _ A10.out).mono ?_); rintro e w' ⟨rfl, ⟨nd, rfl⟩⟩; (try first | exact ⟨rfl, _, World.drewN_drewN _ _ _⟩ | exact ⟨rfl, _, Eq.trans (World.drewN_drewN _ _ _) (congrArg (World.drewN _) (Nat.add_assoc _ _ _))⟩))))
                (try simp only [Act.put, List.setIfInBounds_toArray, List.set_cons_zero, List.set_cons_succ])
                go_cut [46] (fun v46 wc => ∃ (kq : Nat) (x46_10 : Bool), v46 = .bool x46_10 ∧ Aside0 (almanackerlaw20_FastSabbath.j2 kq t201 x6_2 t207 x46_10 = some r) ∧ Aside0 (kq ≤ k2) ∧ Aside0 (Kd.R k48 48 wc w.heap.size (fun _ => True) (.slice (some ad206) t201.length co12) t201) ∧ Aside0 (Below w.heap.size w wc))
                case first =>
                  have H := HC11.out
                  clear HC11
                  by_cases c13 : t207 = 6
                  · rw [if_pos c13] at H
                    have c13b0 : (t207 == 6) = true := beq_iff_eq.mpr c13
                    have c13b1 : (t207 != 6) = false := bne_eq_false_iff_eq.mpr c13
                    clear c13
                    (first | rw [c13b0] | (simp only [i64_w, i32_w]; rw [c13b0]) | skip)
                    have H' := Aside0.mk H
                    clear H
                    have p208 : 0 ≤ (x6_2 : Int) := of_decide_eq_true (by first | (with_reducible assumption) | assumption)
                    have q208 : x6_2 < (t201.length : Int) := of_decide_eq_true (by first | (with_reducible assumption) | assumption)
                    obtain ⟨ad208, e208, hx208_0, hx208_1⟩ := at_T48 (Kd.R_reads' HO_4.out).2.2 x6_2 p208 q208
                    obtain rfl : ad206 = ad208 := (by injection e208)
                    replace p208 := eq_true p208
                    replace q208 := eq_true q208
                    go_wp2
                    repeat (go_quiet (fail); try go_wp2)
                    go_meet
                    case rel => exact ⟨_, ((((rd_T48 t201 x6_2).f0) != 24)), (by first | rfl | (simp; done) | (simp [*]; done)), H', ⟨by have := HJ2.out; have := HK2.out; first | omega | exact Nat.le_refl _⟩, ⟨by (with_reducible repeat (first | apply Kd.R_alloc | apply Kd.R_drewN | apply Kd.R_drew)); exact HO_4.out⟩, ⟨by repeat (first | (with_reducible first | exact HB.out | apply below_alloc | apply pw_below_drewN | apply below_drew1) | exact HB.out)⟩⟩
                  · rw [if_neg c13] at H
                    have c13b0 : (t207 == 6) = false := beq_eq_false_iff_ne.mpr c13
                    have c13b1 : (t207 != 6) = true := bne_iff_ne.mpr c13
                    (first | rw [c13b0] | (simp only [i64_w, i32_w]; rw [c13b0]) | skip)
                    have H' := Aside0.mk H
                    clear H
                    go_wp2
                    repeat (go_quiet (fail); try go_wp2)
                    go_meet
                    case rel => exact ⟨_, (false), (by first | rfl | (simp; done) | (simp [*]; done)), H', ⟨by have := HJ2.out; have := HK2.out; first | omega | exact Nat.le_refl _⟩, ⟨by (with_reducible repeat (first | apply Kd.R_alloc | apply Kd.R_drewN | apply Kd.R_drew)); exact HO_4.out⟩, ⟨by repeat (first | (with_reducible first | exact HB.out | apply below_alloc | apply pw_below_drewN | apply below_drew1) | exact HB.out)⟩⟩
                case rest =>
                  clear HC11
                  try clear c1
                  try clear p2
                  try clear q2
                  try clear hx2
                  try clear c5
                  try clear c5b0
                  try clear c5b1
                  try clear c6
                  try clear p6
                  try clear c7
                  try clear c8
                  try clear c8b0
                  try clear c9
                  try clear c9b0
                  try clear c13
                  try clear c13b0
                  try clear c13b1
                  try clear hx206_0
                  try clear hx206_1
                  try clear hx208_0
                  try clear hx208_1
                  try clear p2
                  try clear p206
                  try clear p208
                  try clear p6
                  try clear q206
                  try clear q208
                  obtain ⟨kq, x46_10, rfl, HA, HJ10, HO_4, HB⟩ := hcut
                  cases kq with
                  | zero => exact absurd HA.out (by simp [almanackerlaw20_FastSabbath.j2])
                  | succ kj10 =>
                    have H := HA.out
                    clear HA
                    simp only [almanackerlaw20_FastSabbath.j2] at H
                    by_cases c14 : x46_10 = true
                    · subst c14
                      have H1 : (some false) = some r := by rw [if_pos rfl] at H; exact H
                      clear H
                      have H := H1
                      clear H1
                      obtain rfl := Option.some.inj H
                      go_wp2
                      repeat (go_quiet (fail); try go_wp2)
                      go_ret
                      exact ⟨by first | rfl | (simp [errW_none, errW_some] <;> rfl) | (simp [*, errW_none, errW_some] <;> rfl), by repeat (first | (with_reducible first | exact HB.out | apply below_alloc | apply pw_below_drewN | apply below_drew1) | exact HB.out)⟩
                    · replace c14 := Bool.eq_false_iff.mpr c14
                      subst c14
                      have H1 : (if 0 ≤ x6_2 then (if x6_2 < (t201.length : Int) then (if ((rd_T48 t201 x6_2).f0) = 21 then (if t207 = 2 then (almanackerlaw20_FastSabbath.j3 kj10 t201 x6_2 false) else (if t207 = 3 then (almanackerlaw20_FastSabbath.j3 kj10 t201 x6_2 false) else (almanackerlaw20_FastSabbath.j3 kj10 t201 x6_2 (t207 != 4)))) else (almanackerlaw20_FastSabbath.j3 kj10 t201 x6_2 false)) else (none)) else (none)) = some r := by rw [if_neg (show ¬ (false = true) by decide)] at H; exact H
                      clear H
                      have H := H1
                      clear H1
                      have HC15 := Aside0.mk H
                      clear H
                      go_upto_region 11 with (fail)
                      repeat (go_quiet (fail); go_upto_region 11 with (fail))
                      go_cut [64] (fun v64 wc => ∃ (kq : Nat) (x64_14 : Bool), v64 = .bool x64_14 ∧ Aside0 (almanackerlaw20_FastSabbath.j3 kq t201 x6_2 x64_14 = some r) ∧ Aside0 (kq ≤ kj10) ∧ Aside0 (Kd.R k48 48 wc w.heap.size (fun _ => True) (.slice (some ad206) t201.length co12) t201) ∧ Aside0 (Below w.heap.size w wc))
                      case first =>
                        have H := HC15.out
                        clear HC15
                        by_cases c16 : 0 ≤ x6_2
                        · rw [if_pos c16] at H
                          have c16b0 : decide (0 ≤ x6_2) = true := decide_eq_true c16
                          clear c16
                          (first | rw [c16b0] | (simp only [i64_w, i32_w]; rw [c16b0]) | skip)
                          by_cases c17 : x6_2 < (t201.length : Int)
                          · rw [if_pos c17] at H
                            have c17b0 : decide (x6_2 < (t201.length : Int)) = true := decide_eq_true c17
                            clear c17
                            by_cases c18 : ((rd_T48 t201 x6_2).f0) = 21
                            · rw [if_pos c18] at H
                              have c18b0 : (((rd_T48 t201 x6_2).f0) == 21) = true := beq_iff_eq.mpr c18
                              have c18b1 : (((rd_T48 t201 x6_2).f0) != 21) = false := bne_eq_false_iff_eq.mpr c18
                              clear c18
                              by_cases c19 : t207 = 2
                              · rw [if_pos c19] at H
                                have c19b0 : (t207 == 2) = true := beq_iff_eq.mpr c19
                                have c19b1 : (t207 != 2) = false := bne_eq_false_iff_eq.mpr c19
                                clear c19
                                have H' := Aside0.mk H
                                clear H
                                have p209 : 0 ≤ (x6_2 : Int) := of_decide_eq_true (by first | (with_reducible assumption) | assumption)
                                have q209 : x6_2 < (t201.length : Int) := of_decide_eq_true (by first | (with_reducible assumption) | assumption)
                                obtain ⟨ad209, e209, hx209_0, hx209_1⟩ := at_T48 (Kd.R_reads' HO_4.out).2.2 x6_2 p209 q209
                                obtain rfl : ad206 = ad209 := (by injection e209)
                                replace p209 := eq_true p209
                                replace q209 := eq_true q209
                                go_wp2
                                repeat (go_quiet (fail); try go_wp2)
                                go_meet
                                case rel => exact ⟨_, (false), (by first | rfl | (simp; done) | (simp [*]; done)), H', ⟨by have := HJ2.out; have := HK2.out; have := HJ10.out; first | omega | exact Nat.le_refl _⟩, ⟨by (with_reducible repeat (first | apply Kd.R_alloc | apply Kd.R_drewN | apply Kd.R_drew)); exact HO_4.out⟩, ⟨by repeat (first | (with_reducible first | exact HB.out | apply below_alloc | apply pw_below_drewN | apply below_drew1) | exact HB.out)⟩⟩
                              · rw [if_neg c19] at H
                                have c19b0 : (t207 == 2) = false := beq_eq_false_iff_ne.mpr c19
                                have c19b1 : (t207 != 2) = true := bne_iff_ne.mpr c19
                                by_cases c20 : t207 = 3
                                · rw [if_pos c20] at H
                                  have c20b0 : (t207 == 3) = true := beq_iff_eq.mpr c20
                                  have c20b1 : (t207 != 3) = false := bne_eq_false_iff_eq.mpr c20
                                  clear c20
                                  have H' := Aside0.mk H
                                  clear H
                                  have p209 : 0 ≤ (x6_2 : Int) := of_decide_eq_true (by first | (with_reducible assumption) | assumption)
                                  have q209 : x6_2 < (t201.length : Int) := of_decide_eq_true (by first | (with_reducible assumption) | assumption)
                                  obtain ⟨ad209, e209, hx209_0, hx209_1⟩ := at_T48 (Kd.R_reads' HO_4.out).2.2 x6_2 p209 q209
                                  obtain rfl : ad206 = ad209 := (by injection e209)
                                  replace p209 := eq_true p209
                                  replace q209 := eq_true q209
                                  go_wp2
                                  repeat (go_quiet (fail); try go_wp2)
                                  go_meet
                                  case rel => exact ⟨_, (false), (by first | rfl | (simp; done) | (simp [*]; done)), H', ⟨by have := HJ2.out; have := HK2.out; have := HJ10.out; first | omega | exact Nat.le_refl _⟩, ⟨by (with_reducible repeat (first | apply Kd.R_alloc | apply Kd.R_drewN | apply Kd.R_drew)); exact HO_4.out⟩, ⟨by repeat (first | (with_reducible first | exact HB.out | apply below_alloc | apply pw_below_drewN | apply below_drew1) | exact HB.out)⟩⟩
                                · rw [if_neg c20] at H
                                  have c20b0 : (t207 == 3) = false := beq_eq_false_iff_ne.mpr c20
                                  have c20b1 : (t207 != 3) = true := bne_iff_ne.mpr c20
                                  have H' := Aside0.mk H
                                  clear H
                                  have p209 : 0 ≤ (x6_2 : Int) := of_decide_eq_true (by first | (with_reducible assumption) | assumption)
                                  have q209 : x6_2 < (t201.length : Int) := of_decide_eq_true (by first | (with_reducible assumption) | assumption)
                                  obtain ⟨ad209, e209, hx209_0, hx209_1⟩ := at_T48 (Kd.R_reads' HO_4.out).2.2 x6_2 p209 q209
                                  obtain rfl : ad206 = ad209 := (by injection e209)
                                  replace p209 := eq_true p209
                                  replace q209 := eq_true q209
                                  go_wp2
                                  repeat (go_quiet (fail); try go_wp2)
                                  go_meet
                                  case rel => exact ⟨_, ((t207 != 4)), (by first | rfl | (simp; done) | (simp [*]; done)), H', ⟨by have := HJ2.out; have := HK2.out; have := HJ10.out; first | omega | exact Nat.le_refl _⟩, ⟨by (with_reducible repeat (first | apply Kd.R_alloc | apply Kd.R_drewN | apply Kd.R_drew)); exact HO_4.out⟩, ⟨by repeat (first | (with_reducible first | exact HB.out | apply below_alloc | apply pw_below_drewN | apply below_drew1) | exact HB.out)⟩⟩
                            · rw [if_neg c18] at H
                              have c18b0 : (((rd_T48 t201 x6_2).f0) == 21) = false := beq_eq_false_iff_ne.mpr c18
                              have c18b1 : (((rd_T48 t201 x6_2).f0) != 21) = true := bne_iff_ne.mpr c18
                              have H' := Aside0.mk H
                              clear H
                              have p209 : 0 ≤ (x6_2 : Int) := of_decide_eq_true (by first | (with_reducible assumption) | assumption)
                              have q209 : x6_2 < (t201.length : Int) := of_decide_eq_true (by first | (with_reducible assumption) | assumption)
                              obtain ⟨ad209, e209, hx209_0, hx209_1⟩ := at_T48 (Kd.R_reads' HO_4.out).2.2 x6_2 p209 q209
                              obtain rfl : ad206 = ad209 := (by injection e209)
                              replace p209 := eq_true p209
                              replace q209 := eq_true q209
                              go_wp2
                              repeat (go_quiet (fail); try go_wp2)
                              go_meet
                              case rel => exact ⟨_, (false), (by first | rfl | (simp; done) | (simp [*]; done)), H', ⟨by have := HJ2.out; have := HK2.out; have := HJ10.out; first | omega | exact Nat.le_refl _⟩, ⟨by (with_reducible repeat (first | apply Kd.R_alloc | apply Kd.R_drewN | apply Kd.R_drew)); exact HO_4.out⟩, ⟨by repeat (first | (with_reducible first | exact HB.out | apply below_alloc | apply pw_below_drewN | apply below_drew1) | exact HB.out)⟩⟩
                          · rw [if_neg c17] at H
                            exact absurd H (by simp)
                        · rw [if_neg c16] at H
                          exact absurd H (by simp)
                      case rest =>
                        clear HC15
                        try clear c1
                        try clear c2
                        try clear p2
                        try clear q2
                        try clear hx2
                        try clear c5
                        try clear c5b0
                        try clear c5b1
                        try clear c6
                        try clear p6
                        try clear c7
                        try clear c8
                        try clear c8b0
                        try clear c9
                        try clear c9b0
                        try clear c13
                        try clear c13b0
                        try clear c13b1
                        try clear c14
                        try clear c16
                        try clear c16b0
                        try clear c17
                        try clear c17b0
                        try clear c18
                        try clear c18b0
                        try clear c18b1
                        try clear c19
                        try clear c19b0
                        try clear c19b1
                        try clear c20
                        try clear c20b0
                        try clear c20b1
                        try clear p20
                        try clear q20
                        try clear hx20
                        try clear hx206_0
                        try clear hx206_1
                        try clear hx208_0
                        try clear hx208_1
                        try clear hx209_0
                        try clear hx209_1
                        try clear p2
                        try clear p206
                        try clear p208
                        try clear p209
                        try clear p6
                        try clear q2
                        try clear q206
                        try clear q208
                        try clear q209
                        obtain ⟨kq, x64_14, rfl, HA, HJ14, HO_4, HB⟩ := hcut
                        cases kq with
                        | zero => exact absurd HA.out (by simp [almanackerlaw20_FastSabbath.j3])
                        | succ kj14 =>
                          have H := HA.out
                          clear HA
                          simp only [almanackerlaw20_FastSabbath.j3] at H
                          by_cases c21 : x64_14 = true
                          · subst c21
                            have H1 : (some false) = some r := by rw [if_pos rfl] at H; exact H
                            clear H
                            have H := H1
                            clear H1
                            obtain rfl := Option.some.inj H
                            go_wp2
                            repeat (go_quiet (fail); try go_wp2)
                            go_ret
                            exact ⟨by first | rfl | (simp [errW_none, errW_some] <;> rfl) | (simp [*, errW_none, errW_some] <;> rfl), by repeat (first | (with_reducible first | exact HB.out | apply below_alloc | apply pw_below_drewN | apply below_drew1) | exact HB.out)⟩
                          · replace c21 := Bool.eq_false_iff.mpr c21
                            subst c21
                            have H1 : (almanackerlaw20_FastSabbath.l1 kj14 t201 x6_2 0) = some r := by rw [if_neg (show ¬ (false = true) by decide)] at H; exact H
                            clear H
                            have H := H1
                            clear H1
                            have H' := Aside0.mk H
                            clear H
                            go_wp2
                            repeat (go_quiet (fail); try go_wp2)
                            go_loopg [8] kj14 (fun kq v8 w' => ∃ (x8_5 : Int), v8 = .int .i64 x8_5 ∧ Aside0 (almanackerlaw20_FastSabbath.l1 kq t201 x6_2 x8_5 = some r) ∧ Aside0 (kq ≤ kj14) ∧ Aside0 (Kd.R k48 48 w' w.heap.size (fun _ => True) (.slice (some ad206) t201.length co12) t201) ∧ Aside0 (Below w.heap.size w w'))
                            case atStart => exact ⟨(0), (by first | rfl | (simp; done) | (simp [*]; done)), H', ⟨Nat.le_refl _⟩, ⟨by (with_reducible repeat (first | apply Kd.R_alloc | apply Kd.R_drewN | apply Kd.R_drew)); exact HO_4.out⟩, ⟨by repeat (first | (with_reducible first | exact HB.out | apply below_alloc | apply pw_below_drewN | apply below_drew1) | exact HB.out)⟩⟩
                            case round =>
                              clear H'
                              try clear c1
                              try clear c2
                              try clear p2
                              try clear q2
                              try clear hx2
                              try clear c5
                              try clear c5b0
                              try clear c5b1
                              try clear c6
                              try clear p6
                              try clear c7
                              try clear c8
                              try clear c8b0
                              try clear c9
                              try clear c9b0
                              try clear c13
                              try clear c13b0
                              try clear c13b1
                              try clear c14
                              try clear c16
                              try clear c16b0
                              try clear c17
                              try clear c17b0
                              try clear c18
                              try clear c18b0
                              try clear c18b1
                              try clear c19
                              try clear c19b0
                              try clear c19b1
                              try clear c20
                              try clear c20b0
                              try clear c20b1
                              try clear p20
                              try clear q20
                              try clear hx20
                              try clear c21
                              try clear hx206_0
                              try clear hx206_1
                              try clear hx208_0
                              try clear hx208_1
                              try clear hx209_0
                              try clear hx209_1
                              try clear p2
                              try clear p20
                              try clear p206
                              try clear p208
                              try clear p209
                              try clear p6
                              try clear q2
                              try clear q20
                              try clear q206
                              try clear q208
                              try clear q209
                              obtain ⟨x8_5, rfl, HA, HK5, HO_4, HB⟩ := hrel
                              cases gk with
                              | zero => exact absurd HA.out (by simp [almanackerlaw20_FastSabbath.l1])
                              | succ k5 =>
                                have H := HA.out
                                clear HA
                                simp only [almanackerlaw20_FastSabbath.l1] at H
                                by_cases c22 : x8_5 < x6_2
                                · rw [if_pos c22] at H
                                  have c22b0 : decide (x8_5 < x6_2) = true := decide_eq_true c22
                                  clear c22
                                  by_cases c23 : 0 ≤ x8_5
                                  · rw [if_pos c23] at H
                                    have c23b0 : decide (0 ≤ x8_5) = true := decide_eq_true c23
                                    clear c23
                                    by_cases c24 : x8_5 < (t201.length : Int)
                                    · rw [if_pos c24] at H
                                      have c24b0 : decide (x8_5 < (t201.length : Int)) = true := decide_eq_true c24
                                      clear c24
                                      by_cases c25 : 0 ≤ x6_2
                                      · rw [if_pos c25] at H
                                        have c25b0 : decide (0 ≤ x6_2) = true := decide_eq_true c25
                                        clear c25
                                        by_cases c26 : x6_2 < (t201.length : Int)
                                        · rw [if_pos c26] at H
                                          have c26b0 : decide (x6_2 < (t201.length : Int)) = true := decide_eq_true c26
                                          clear c26
                                          by_cases c27 : ((rd_T48 t201 x8_5).f0) = ((rd_T48 t201 x6_2).f0)
                                          · rw [if_pos c27] at H
                                            have c27b0 : (((rd_T48 t201 x8_5).f0) == ((rd_T48 t201 x6_2).f0)) = true := beq_iff_eq.mpr c27
                                            have c27b1 : (((rd_T48 t201 x8_5).f0) != ((rd_T48 t201 x6_2).f0)) = false := bne_eq_false_iff_eq.mpr c27
                                            clear c27
                                            obtain rfl := Option.some.inj H
                                            have p210 : 0 ≤ (x8_5 : Int) := of_decide_eq_true (by first | (with_reducible assumption) | assumption)
                                            have q210 : x8_5 < (t201.length : Int) := of_decide_eq_true (by first | (with_reducible assumption) | assumption)
                                            obtain ⟨ad210, e210, hx210_0, hx210_1⟩ := at_T48 (Kd.R_reads' HO_4.out).2.2 x8_5 p210 q210
                                            obtain rfl : ad206 = ad210 := (by injection e210)
                                            replace p210 := eq_true p210
                                            replace q210 := eq_true q210
                                            have p211 : 0 ≤ (x6_2 : Int) := of_decide_eq_true (by first | (with_reducible assumption) | assumption)
                                            have q211 : x6_2 < (t201.length : Int) := of_decide_eq_true (by first | (with_reducible assumption) | assumption)
                                            obtain ⟨ad211, e211, hx211_0, hx211_1⟩ := at_T48 (Kd.R_reads' HO_4.out).2.2 x6_2 p211 q211
                                            obtain rfl : ad206 = ad211 := (by injection e211)
                                            replace p211 := eq_true p211
                                            replace q211 := eq_true q211
                                            go_wp2
                                            repeat (go_quiet (fail); try go_wp2)
                                            go_ret
                                            exact ⟨by first | rfl | (simp [errW_none, errW_some] <;> rfl) | (simp [*, errW_none, errW_some] <;> rfl), by repeat (first | (with_reducible first | exact HB.out | apply below_alloc | apply pw_below_drewN | apply below_drew1) | exact HB.out)⟩
                                          · rw [if_neg c27] at H
                                            have c27b0 : (((rd_T48 t201 x8_5).f0) == ((rd_T48 t201 x6_2).f0)) = false := beq_eq_false_iff_ne.mpr c27
                                            have c27b1 : (((rd_T48 t201 x8_5).f0) != ((rd_T48 t201 x6_2).f0)) = true := bne_iff_ne.mpr c27
                                            by_cases c28 : ((rd_T48 t201 x8_5).f1) > ((rd_T48 t201 x6_2).f1)
                                            · rw [if_pos c28] at H
                                              have c28b0 : decide (((rd_T48 t201 x6_2).f1) < ((rd_T48 t201 x8_5).f1)) = true := decide_eq_true c28
                                              clear c28
                                              obtain rfl := Option.some.inj H
                                              have p210 : 0 ≤ (x8_5 : Int) := of_decide_eq_true (by first | (with_reducible assumption) | assumption)
                                              have q210 : x8_5 < (t201.length : Int) := of_decide_eq_true (by first | (with_reducible assumption) | assumption)
                                              obtain ⟨ad210, e210, hx210_0, hx210_1⟩ := at_T48 (Kd.R_reads' HO_4.out).2.2 x8_5 p210 q210
                                              obtain rfl : ad206 = ad210 := (by injection e210)
                                              replace p210 := eq_true p210
                                              replace q210 := eq_true q210
                                              have p211 : 0 ≤ (x6_2 : Int) := of_decide_eq_true (by first | (with_reducible assumption) | assumption)
                                              have q211 : x6_2 < (t201.length : Int) := of_decide_eq_true (by first | (with_reducible assumption) | assumption)
                                              obtain ⟨ad211, e211, hx211_0, hx211_1⟩ := at_T48 (Kd.R_reads' HO_4.out).2.2 x6_2 p211 q211
                                              obtain rfl : ad206 = ad211 := (by injection e211)
                                              replace p211 := eq_true p211
                                              replace q211 := eq_true q211
                                              have p212 : 0 ≤ (x8_5 : Int) := of_decide_eq_true (by first | (with_reducible assumption) | assumption)
                                              have q212 : x8_5 < (t201.length : Int) := of_decide_eq_true (by first | (with_reducible assumption) | assumption)
                                              obtain ⟨ad212, e212, hx212_0, hx212_1⟩ := at_T48 (Kd.R_reads' HO_4.out).2.2 x8_5 p212 q212
                                              obtain rfl : ad206 = ad212 := (by injection e212)
                                              replace p212 := eq_true p212
                                              replace q212 := eq_true q212
                                              have p213 : 0 ≤ (x6_2 : Int) := of_decide_eq_true (by first | (with_reducible assumption) | assumption)
                                              have q213 : x6_2 < (t201.length : Int) := of_decide_eq_true (by first | (with_reducible assumption) | assumption)
                                              obtain ⟨ad213, e213, hx213_0, hx213_1⟩ := at_T48 (Kd.R_reads' HO_4.out).2.2 x6_2 p213 q213
                                              obtain rfl : ad206 = ad213 := (by injection e213)
                                              replace p213 := eq_true p213
                                              replace q213 := eq_true q213
                                              go_wp2
                                              repeat (go_quiet (fail); try go_wp2)
                                              go_ret
                                              exact ⟨by first | rfl | (simp [errW_none, errW_some] <;> rfl) | (simp [*, errW_none, errW_some] <;> rfl), by repeat (first | (with_reducible first | exact HB.out | apply below_alloc | apply pw_below_drewN | apply below_drew1) | exact HB.out)⟩
                                            · rw [if_neg c28] at H
                                              have c28b0 : decide (((rd_T48 t201 x6_2).f1) < ((rd_T48 t201 x8_5).f1)) = false := decide_eq_false c28
                                              clear c28
                                              have H' := Aside0.mk H
                                              clear H
                                              have p210 : 0 ≤ (x8_5 : Int) := of_decide_eq_true (by first | (with_reducible assumption) | assumption)
                                              have q210 : x8_5 < (t201.length : Int) := of_decide_eq_true (by first | (with_reducible assumption) | assumption)
                                              obtain ⟨ad210, e210, hx210_0, hx210_1⟩ := at_T48 (Kd.R_reads' HO_4.out).2.2 x8_5 p210 q210
                                              obtain rfl : ad206 = ad210 := (by injection e210)
                                              replace p210 := eq_true p210
                                              replace q210 := eq_true q210
                                              have p211 : 0 ≤ (x6_2 : Int) := of_decide_eq_true (by first | (with_reducible assumption) | assumption)
                                              have q211 : x6_2 < (t201.length : Int) := of_decide_eq_true (by first | (with_reducible assumption) | assumption)
                                              obtain ⟨ad211, e211, hx211_0, hx211_1⟩ := at_T48 (Kd.R_reads' HO_4.out).2.2 x6_2 p211 q211
                                              obtain rfl : ad206 = ad211 := (by injection e211)
                                              replace p211 := eq_true p211
                                              replace q211 := eq_true q211
                                              have p212 : 0 ≤ (x8_5 : Int) := of_decide_eq_true (by first | (with_reducible assumption) | assumption)
                                              have q212 : x8_5 < (t201.length : Int) := of_decide_eq_true (by first | (with_reducible assumption) | assumption)
                                              obtain ⟨ad212, e212, hx212_0, hx212_1⟩ := at_T48 (Kd.R_reads' HO_4.out).2.2 x8_5 p212 q212
                                              obtain rfl : ad206 = ad212 := (by injection e212)
                                              replace p212 := eq_true p212
                                              replace q212 := eq_true q212
                                              have p213 : 0 ≤ (x6_2 : Int) := of_decide_eq_true (by first | (with_reducible assumption) | assumption)
                                              have q213 : x6_2 < (t201.length : Int) := of_decide_eq_true (by first | (with_reducible assumption) | assumption)
                                              obtain ⟨ad213, e213, hx213_0, hx213_1⟩ := at_T48 (Kd.R_reads' HO_4.out).2.2 x6_2 p213 q213
                                              obtain rfl : ad206 = ad213 := (by injection e213)
                                              replace p213 := eq_true p213
                                              replace q213 := eq_true q213
                                              go_wp2
                                              repeat (go_quiet (fail); try go_wp2)
                                              go_roundg k5
                                              case measure => have := HJ2.out; have := HK2.out; have := HJ10.out; have := HJ14.out; have := HK5.out; omega
                                              case rel => exact ⟨(wrap64 (x8_5 + 1)), (by first | rfl | (simp; done) | (simp [*]; done)), H', ⟨by have := HJ2.out; have := HK2.out; have := HJ10.out; have := HJ14.out; have := HK5.out; omega⟩, ⟨by (with_reducible repeat (first | apply Kd.R_alloc | apply Kd.R_drewN | apply Kd.R_drew)); exact HO_4.out⟩, ⟨by repeat (first | (with_reducible first | exact HB.out | apply below_alloc | apply pw_below_drewN | apply below_drew1) | exact HB.out)⟩⟩
                                        · rw [if_neg c26] at H
                                          exact absurd H (by simp)
                                      · rw [if_neg c25] at H
                                        exact absurd H (by simp)
                                    · rw [if_neg c24] at H
                                      exact absurd H (by simp)
                                  · rw [if_neg c23] at H
                                    exact absurd H (by simp)
                                · rw [if_neg c22] at H
                                  have c22b0 : decide (x8_5 < x6_2) = false := decide_eq_false c22
                                  clear c22
                                  have H' := Aside0.mk H
                                  clear H
                                  go_wp2
                                  repeat (go_quiet (fail); try go_wp2)
                                  go_roundg k5
                                  case measure => have := HJ2.out; have := HK2.out; have := HJ10.out; have := HJ14.out; have := HK5.out; omega
                                  case rel => exact ⟨(wrap64 (x6_2 + 1)), (by first | rfl | (simp; done) | (simp [*]; done)), H', ⟨by have := HJ2.out; have := HK2.out; have := HJ10.out; have := HJ14.out; have := HK5.out; omega⟩, ⟨by (with_reducible repeat (first | apply Kd.R_alloc | apply Kd.R_drewN | apply Kd.R_drew)); exact HO_4.out⟩, ⟨by repeat (first | (with_reducible first | exact HB.out | apply below_alloc | apply pw_below_drewN | apply below_drew1) | exact HB.out)⟩⟩
              · rw [if_neg c9] at H
                exact absurd H (by simp)
            · rw [if_neg c8] at H
              have c8b0 : decide (x6_2 < (t201.length : Int)) = false := decide_eq_false c8
              clear c8
              replace H := Option.bind_eq_some_iff.mp H
              obtain ⟨t205, A290, H⟩ := H
              replace H : (some t205) = some r := H
              have A29 := Aside0.mk A290
              clear A290
              obtain rfl := Option.some.inj H
              obtain ⟨Ao30, co30, eo30⟩ := Kd.R_slice HO_4.out
              subst eo30
              go_wp2_with (first | (go_at_call 28; (with_reducible refine (almanackerlaw20_awake.calls k2  t205 _ ?side1 A29.out).mono ?_); (case side1 => exact GlobT.below HGT (by repeat (first | (with_reducible first | exact HB.out | apply below_alloc | apply pw_below_drewN | apply below_drew1) | exact HB.out))); rintro e w31 ⟨rfl, hb⟩; have n0_ := Aside0.mk (Kd.R_below (by (with_reducible repeat (first | apply Kd.R_alloc | apply Kd.R_drewN | apply Kd.R_drew)); exact HO_4.out) hb); have n1_ := Aside0.mk (below_step (by repeat (first | (with_reducible first | exact HB.out | apply below_alloc | apply pw_below_drewN | apply below_drew1) | exact HB.out)) hb); clear HO_4; clear HB; have HO_4 := n0_; have HB := n1_; clear n0_ n1_; (try clear hb); (try clear hb2); (try clear hk); (try clear hi)))
              repeat (go_quiet (first | (go_at_call 28; (with_reducible refine (almanackerlaw20_awake.calls k2  t205 _ ?side1 A29.out).mono ?_); (case side1 => exact GlobT.below HGT (by repeat (first | (with_reducible first | exact HB.out | apply below_alloc | apply pw_below_drewN | apply below_drew1) | exact HB.out))); rintro e w31 ⟨rfl, hb⟩; have n0_ := Aside0.mk (Kd.R_below (by (with_reducible repeat (first | apply Kd.R_alloc | apply Kd.R_drewN | apply Kd.R_drew)); exact HO_4.out) hb); have n1_ := Aside0.mk (below_step (by repeat (first | (with_reducible first | exact HB.out | apply below_alloc | apply pw_below_drewN | apply below_drew1) | exact HB.out)) hb); clear HO_4; clear HB; have HO_4 := n0_; have HB := n1_; clear n0_ n1_; (try clear hb); (try clear hb2); (try clear hk); (try clear hi))); try go_wp2_with (first | (go_at_call 28; (with_reducible refine (almanackerlaw20_awake.calls k2  t205 _ ?side1 A29.out).mono ?_); (case side1 => exact GlobT.below HGT (by repeat (first | (with_reducible first | exact HB.out | apply below_alloc | apply pw_below_drewN | apply below_drew1) | exact HB.out))); rintro e w31 ⟨rfl, hb⟩; have n0_ := Aside0.mk (Kd.R_below (by (with_reducible repeat (first | apply Kd.R_alloc | apply Kd.R_drewN | apply Kd.R_drew)); exact HO_4.out) hb); have n1_ := Aside0.mk (below_step (by repeat (first | (with_reducible first | exact HB.out | apply below_alloc | apply pw_below_drewN | apply below_drew1) | exact HB.out)) hb); clear HO_4; clear HB; have HO_4 := n0_; have HB := n1_; clear n0_ n1_; (try clear hb); (try clear hb2); (try clear hk); (try clear hi))))
              go_ret
              exact ⟨by first | rfl | (simp [errW_none, errW_some] <;> rfl) | (simp [*, errW_none, errW_some] <;> rfl), by repeat (first | (with_reducible first | exact HB.out | apply below_alloc | apply pw_below_drewN | apply below_drew1) | exact HB.out)⟩

/-- THE ONE PURE STATEMENT of almanackerlaw20_FastSabbath: yours. -/
def almanackerlaw20_FastSabbath.Pure : Prop := ∀ (a0 : Int), (Lit.int .u16 a0).wf = true → ∃ k, almanackerlaw20_FastSabbath.f k a0 = some true
theorem almanackerlaw20_FastSabbath.walk (P : almanackerlaw20_FastSabbath.Pure) (a0 : Int) (w : World) (HGT : GlobT w) (w0 : (Lit.int .u16 a0).wf = true) :
    Calls Tryd.prog 6 #[.int .u16 a0] w fun e w' => e = .returned (.bool true) ∧ Below w.heap.size w w' := by
  obtain ⟨k, h⟩ := P a0 w0
  refine (almanackerlaw20_FastSabbath.calls k a0 true w HGT h).mono ?_
  rintro e w' ⟨rfl, hd⟩
  exact ⟨rfl, hd⟩

end Go.Proofs.YtflpddhoiafhcaaDoor.F
