-- Written by wip/hprint.py of this repo (holes typed by hand, all else by a program) over the seat YtflpddhoiafhcaaDoor.
import Derived.Test.YtflpddhoiafhcaaDoorFx0
import Derived.Test.YtflpddhoiafhcaaDoorFx2
import Derived.Test.YtflpddhoiafhcaaDoorFx3
import Derived.Test.YtflpddhoiafhcaaDoorFx7
namespace Go.Proofs.YtflpddhoiafhcaaDoor.F
open Go.Proofs.YtflpddhoiafhcaaDoor.H
open Go.RowKit Go.Proofs.YtflpddhoiafhcaaDoorW.PrintWords Go.Proofs.YtflpddhoiafhcaaDoorW.PrintLast Go.Proofs.YtflpddhoiafhcaaDoorW.PrintMore
attribute [local go_sem] max2_int min2_int max_two min_two max_three min_three max_four min_four   -- for this text's walks alone
set_option linter.unusedVariables false
set_option linter.unusedSimpArgs false

/-! ### fast_Of: function 26 -/
def fastRows : List (Int × Int × Int) := [(2, 1, 3), (10, 4, 10), (13, 6, 13), (16, 7, 14), (19, 7, 27), (21, 8, 5), (24, 8, 28), (26, 10, 17), (27, 11, 9)]
def fast_Of.go (y : Int) : List (Int × Int × Int) → List S48 → Option (List S48 × Int)
  | [], l => (feast_Sort.f l).bind fun s => some (s, 0)
  | (kd, m, d) :: r, l => (heb_ToDay.f 20 y m false d).bind fun t => if t.2 = 0 then (molad_Weekday.f t.1).bind fun wd =>
      (if kd = 21 then fast_Of.go y r (l ++ [⟨kd, wrap64 (t.1 + Cal.moved kd wd)⟩] ++ [⟨20, wrap64 (wrap64 (t.1 + Cal.moved kd wd) - 1)⟩]) else fast_Of.go y r (l ++ [⟨kd, wrap64 (t.1 + Cal.moved kd wd)⟩])) else some ([], t.2)
def fast_Of.f (a0 : Int) : Option (List S48 × Int) := if a0 < 1 ∨ a0 > 9999 then some ([], 2) else fast_Of.go a0 fastRows []
/-- What the walk holds of its world: elder memory stands; the variables read as laid; the list of the days stands. -/
structure FAt (w : World) (ga : Nat) (W : World) : Prop where
  below : Below w.heap.size w W
  glob : GlobT W
  arr : W.heap[ga]? = some (.cells #[.int .i64 2, .int .i64 1, .int .i64 3, .int .i64 10, .int .i64 4, .int .i64 10, .int .i64 13, .int .i64 6, .int .i64 13, .int .i64 16, .int .i64 7, .int .i64 14, .int .i64 19, .int .i64 7, .int .i64 27, .int .i64 21, .int .i64 8, .int .i64 5, .int .i64 24, .int .i64 8, .int .i64 28, .int .i64 26, .int .i64 10, .int .i64 17, .int .i64 27, .int .i64 11, .int .i64 9] 73)
theorem FAt.step {w : World} {ga : Nat} {W W' : World} (h : FAt w ga W) (hb : Below W.heap.size W W') : FAt w ga W' :=
  ⟨h.below.trans (hb.mono h.below.size), h.glob.below hb, blk_below h.arr hb⟩
theorem FAt.grown {w : World} {ga : Nat} {W W' : World} {row : Option Nat} (h : FAt w ga W) (hb : Below w.heap.size w W') (hg : W.grownBy W' row) (hrow : ∀ k, row = some k → w.heap.size ≤ k) (HG : GlobT w) (hne : some ga ≠ row) : FAt w ga W' :=
  ⟨hb, HG.below hb, blk_grown h.arr hg hne⟩
theorem infoEv : (Tryd.prog.info? 48).map (fun i => (i.zero, i.size, i.bytes)) = some (some (.agg #[(.int .i64 0), (.int .i64 0)]), 2, 16) := by kernel_rfl
theorem wrapEq64 (x : Int) : IntKind.i64.wrap x = wrap64 x := by unfold IntKind.wrap wrap64; simp [IntKind.signed, IntKind.bits]; split <;> omega
theorem drawn_trans {a b c : World} (h : Drawn0 a b) (k : Drawn0 b c) : Drawn0 a c := by
  obtain ⟨⟨n, rfl⟩⟩ := h
  obtain ⟨⟨m, rfl⟩⟩ := k
  exact (Drawn0.refl a).step n |>.step m
set_option maxHeartbeats 16000000 in
set_option maxRecDepth 100000 in
theorem fast_Of.calls (a0 : Int) (r1 : List S48) (r2 : Int) (w : World) (HG : GlobT w) (h : fast_Of.f a0 = some (r1, r2)) :
    Calls Tryd.prog 26 #[.int .i64 a0] w fun e w' => ∃ v0_ : Value, e = .returned (.tuple #[v0_, .int .i64 r2]) ∧ Kd.R k48 48 w' w.heap.size (fun _ => True) v0_ r1 ∧ Below w.heap.size w w' := by
  have HGW := Aside0.mk HG
  by_cases hr : a0 < 1 ∨ a0 > 9999
  · rw [fast_Of.f, if_pos hr] at h
    have h' := Option.some.inj h
    simp only [Prod.mk.injEq] at h'
    obtain ⟨rfl, rfl⟩ := h'
    clear HG h
    by_cases h1 : a0 < 1
    · have c1 : decide (a0 < 1) = true := decide_eq_true h1
      clear hr h1
      go_enter Tryd.func26, Tryd.ntmps26
      go_wp2_with fail
      go_ret2
      exact ⟨_, rfl, Kd.R_nil _ _ _ _ _, Below.refl _ _⟩
    · have c1 : decide (a0 < 1) = false := decide_eq_false h1
      have c2 : decide (9999 < a0) = true := decide_eq_true (by omega)
      clear hr h1
      go_enter Tryd.func26, Tryd.ntmps26
      go_wp2_with fail
      go_ret2
      exact ⟨_, rfl, Kd.R_nil _ _ _ _ _, Below.refl _ _⟩
  · rw [fast_Of.f, if_neg hr] at h
    have c1 : decide (a0 < 1) = false := decide_eq_false (by omega)
    have c2 : decide (9999 < a0) = false := decide_eq_false (by omega)
    clear hr
    have HH := Aside0.mk h
    have HA0 : Aside0 (FAt w w.heap.size (w.alloc (.cells #[.int .i64 2, .int .i64 1, .int .i64 3, .int .i64 10, .int .i64 4, .int .i64 10, .int .i64 13, .int .i64 6, .int .i64 13, .int .i64 16, .int .i64 7, .int .i64 14, .int .i64 19, .int .i64 7, .int .i64 27, .int .i64 21, .int .i64 8, .int .i64 5, .int .i64 24, .int .i64 8, .int .i64 28, .int .i64 26, .int .i64 10, .int .i64 17, .int .i64 27, .int .i64 11, .int .i64 9] 73))) := ⟨⟨below_alloc (Below.refl _ _) _, HG.below (below_alloc (Below.refl _ _) _), blk_new _ _⟩⟩
    clear HG h
    go_enter Tryd.func26, Tryd.ntmps26
    go_wp2_with fail
    have HRN : Aside0 (Kd.R k48 48 (w.alloc (.cells #[.int .i64 2, .int .i64 1, .int .i64 3, .int .i64 10, .int .i64 4, .int .i64 10, .int .i64 13, .int .i64 6, .int .i64 13, .int .i64 16, .int .i64 7, .int .i64 14, .int .i64 19, .int .i64 7, .int .i64 27, .int .i64 21, .int .i64 8, .int .i64 5, .int .i64 24, .int .i64 8, .int .i64 28, .int .i64 26, .int .i64 10, .int .i64 17, .int .i64 27, .int .i64 11, .int .i64 9] 73)) w.heap.size (fun _ => True) (.slice none 0 0) []) := ⟨Kd.R_nil _ _ _ _ _⟩
    go_loopw [4, 26] (fun s4 s26 wr => ∃ (i : Nat) (acc : List S48), i ≤ 9 ∧ acc.length ≤ 2 * i ∧ s26 = .int .i64 i ∧ Aside0 (fast_Of.go a0 (fastRows.drop i) acc = some (r1, r2)) ∧ Aside0 (Kd.R k48 48 wr w.heap.size (fun _ => True) s4 acc) ∧ Aside0 (FAt w w.heap.size wr)) (fun _ s26 _ => 9 - (intOf s26).toNat)
    case atStart => exact ⟨0, [], by omega, by simp, rfl, HH, HRN, HA0⟩
    case round =>
      obtain ⟨i, acc, hi, hlen, rfl, HG, HO, HF⟩ := hrel
      clear HH HA0 HRN
      rcases (by omega : i = 0 ∨ i = 1 ∨ i = 2 ∨ i = 3 ∨ i = 4 ∨ i = 5 ∨ i = 6 ∨ i = 7 ∨ i = 8 ∨ i = 9) with rfl | rfl | rfl | rfl | rfl | rfl | rfl | rfl | rfl | rfl
      · have H := HG.out
        rw [show fastRows.drop 0 = (2, 1, 3) :: fastRows.drop 1 from rfl, fast_Of.go] at H
        obtain ⟨⟨t1, t2⟩, hT, H⟩ := Option.bind_eq_some_iff.1 H
        simp only at H
        clear HG
        have HT : Aside0 (∀ W, GlobT W → Calls Tryd.prog 52 #[.agg #[.int .i64 a0, .int .i64 1, .bool false, .int .i64 3]] W fun e w' => e = .returned (.tuple #[.int .i64 t1, .int .i64 t2]) ∧ Below W.heap.size W w') := ⟨fun W hW => heb_ToDay.calls 20 a0 1 false 3 t1 t2 W hW hT⟩
        have hz0 : wr.cell? ⟨w.heap.size, 0, none⟩ = some (.int .i64 2) := (blk_cell HF.out.arr 0).trans rfl
        have hz1 : wr.cell? ⟨w.heap.size, 1, none⟩ = some (.int .i64 1) := (blk_cell HF.out.arr 1).trans rfl
        have hz2 : wr.cell? ⟨w.heap.size, 2, none⟩ = some (.int .i64 3) := (blk_cell HF.out.arr 2).trans rfl
        have H0 := Aside0.mk H
        clear H hT
        go_wp2_with fail
        have hb0 := below_alloc (Below.refl wr.heap.size wr) (.cells #[.int .i64 2, .int .i64 1, .int .i64 3] 73)
        refine (HT.out _ (HF.out.glob.below hb0)).mono ?_
        rintro e W1 ⟨rfl, hb⟩
        have HF1 := Aside0.mk ((HF.out.step hb0).step hb)
        have HX1 := Aside0.mk (blk_below (blk_new wr (.cells #[.int .i64 2, .int .i64 1, .int .i64 3] 73)) hb)
        have HO1 := Aside0.mk (Kd.R_below (Kd.R_below HO.out hb0) hb)
        have HXL : Aside0 (w.heap.size ≤ wr.heap.size) := ⟨HF.out.below.size⟩
        clear hb hb0 hz0 hz1 hz2 HT HF HO
        generalize wr.heap.size = gx at *
        by_cases he : t2 = 0
        · subst he
          have H := H0.out
          rw [if_pos rfl] at H
          obtain ⟨wd, hW, H⟩ := Option.bind_eq_some_iff.1 H
          obtain ⟨mv, hmv⟩ : ∃ mv, Cal.moved 2 wd = mv := ⟨_, rfl⟩
          have HWd : Aside0 (∀ W, Calls Tryd.prog 53 #[.int .i64 t1] W fun e w' => e = .returned (.int .i64 wd) ∧ Drawn0 W w') := ⟨fun W => molad_Weekday.calls t1 wd W hW⟩
          have HM : Aside0 (∀ W, Calls Tryd.prog 29 #[.int .i64 2, .int .i64 wd] W fun e w' => e = .returned (.int .i64 mv) ∧ Drawn0 W w') := ⟨fun W => fast_Moved.calls 2 wd mv W (by rw [fast_Moved.f, hmv])⟩
          rw [hmv, if_neg (by decide)] at H
          have H1 := Aside0.mk H
          clear H hW hmv H0
          go_upto_region 10 with fail
          go_cut [7] (fun v7 wc => v7 = .int .i64 (wrap64 (t1 + mv)) ∧ Aside0 (Drawn0 W1 wc))
          case first =>
            go_region_held3 (fun V => Drawn0 W1 V ∧ V.cell? ⟨gx, 0, none⟩ = some (.int .i64 2)) (first | (have hz_ : Drawn0 W1 W1.drew := (Drawn0.refl W1).step 1; exact ⟨hz_, (blk_below HX1.out hz_.below |> fun h => blk_cell h 0)⟩) | (have hz_ := drawn_trans (And.left (by assumption)) hb; exact ⟨hz_, (blk_below HX1.out hz_.below |> fun h => blk_cell h 0)⟩)) (first | (go_at_call 53; refine (HWd.out _).mono ?_; rintro e w' ⟨rfl, hb⟩) | (go_at_call 29; refine (HM.out _).mono ?_; rintro e w' ⟨rfl, hb⟩))
            have HD := Aside0.mk (And.left (‹Drawn0 W1 _ ∧ _›))
            go_wp2_with fail
            go_meet
            case rel => exact ⟨by rw [← wrapEq64], HD⟩
          case rest =>
            obtain ⟨rfl, HD⟩ := hcut
            have HF2 := Aside0.mk (HF1.out.step HD.out.below)
            have HX2 := Aside0.mk (blk_below HX1.out HD.out.below)
            have HO2 := Aside0.mk (Kd.R_below HO1.out HD.out.below)
            clear HF1 HX1 HO1 HD HWd HM
            have hx0 : wc.cell? ⟨gx, 0, none⟩ = some (.int .i64 2) := blk_cell HX2.out 0
            go_wp2_with (first | ((with_reducible refine gate_builtin (b := .append) (xs := #[.tmp 51, .tmp 56]) rfl ?_); at_builtin; refine Kd.R_append k48 (w0 := w) w.heap.size rfl (.tmp 51) (.tmp 56) 38 48 (.agg #[(.int .i64 0), (.int .i64 0)]) 16 rfl Tryd.underlying38 infoEv rfl (by decide) (by omega) u4 (acc) (⟨2, wrap64 (t1 + mv)⟩ : S48) [.int .i64 2, .int .i64 (wrap64 (t1 + mv))] (fun _ => True) (fun _ => False) rfl rfl ?aP (fun _ hk => hk.elim) (fun _ _ => trivial) HO2.out HF2.out.below HF2.out.below.size ?aL ?_; (case aP => exact k48_mkM _ _ _ (⟨2, wrap64 (t1 + mv)⟩ : S48)); (case aL => first | omega | (simp; omega)); intro v1 W2 ho hb hg hat; have HO3 := Aside0.mk ho; have HF3 := Aside0.mk (FAt.grown HF2.out hb hg (Kd.R_base HO2.out) HGW.out (Kd.R_ne HO2.out HF2.out.arr (by decide))); have hx3 : W2.cell? ⟨gx, 0, none⟩ = some (.int .i64 2) := blk_cell (blk_grown HX2.out hg (Kd.R_ne HO2.out HX2.out (by decide))) 0; clear hx0; clear ho hb hg hat))
            exact ⟨⟨1, _, by omega, by simp; omega, rfl, H1, HO3, HF3⟩, by simp [intOf]⟩
        · have H := H0.out
          rw [if_neg he] at H
          have h' := Option.some.inj H
          simp only [Prod.mk.injEq] at h'
          obtain ⟨rfl, rfl⟩ := h'
          have he2 : (t2 != 0) = true := by simpa using he
          clear H H0 he HO1 HX1
          go_wp2_with fail
          go_ret2
          exact ⟨_, rfl, Kd.R_nil _ _ _ _ _, HF1.out.below⟩
      · have H := HG.out
        rw [show fastRows.drop 1 = (10, 4, 10) :: fastRows.drop 2 from rfl, fast_Of.go] at H
        obtain ⟨⟨t1, t2⟩, hT, H⟩ := Option.bind_eq_some_iff.1 H
        simp only at H
        clear HG
        have HT : Aside0 (∀ W, GlobT W → Calls Tryd.prog 52 #[.agg #[.int .i64 a0, .int .i64 4, .bool false, .int .i64 10]] W fun e w' => e = .returned (.tuple #[.int .i64 t1, .int .i64 t2]) ∧ Below W.heap.size W w') := ⟨fun W hW => heb_ToDay.calls 20 a0 4 false 10 t1 t2 W hW hT⟩
        have hz0 : wr.cell? ⟨w.heap.size, 3, none⟩ = some (.int .i64 10) := (blk_cell HF.out.arr 3).trans rfl
        have hz1 : wr.cell? ⟨w.heap.size, 4, none⟩ = some (.int .i64 4) := (blk_cell HF.out.arr 4).trans rfl
        have hz2 : wr.cell? ⟨w.heap.size, 5, none⟩ = some (.int .i64 10) := (blk_cell HF.out.arr 5).trans rfl
        have H0 := Aside0.mk H
        clear H hT
        go_wp2_with fail
        have hb0 := below_alloc (Below.refl wr.heap.size wr) (.cells #[.int .i64 10, .int .i64 4, .int .i64 10] 73)
        refine (HT.out _ (HF.out.glob.below hb0)).mono ?_
        rintro e W1 ⟨rfl, hb⟩
        have HF1 := Aside0.mk ((HF.out.step hb0).step hb)
        have HX1 := Aside0.mk (blk_below (blk_new wr (.cells #[.int .i64 10, .int .i64 4, .int .i64 10] 73)) hb)
        have HO1 := Aside0.mk (Kd.R_below (Kd.R_below HO.out hb0) hb)
        have HXL : Aside0 (w.heap.size ≤ wr.heap.size) := ⟨HF.out.below.size⟩
        clear hb hb0 hz0 hz1 hz2 HT HF HO
        generalize wr.heap.size = gx at *
        by_cases he : t2 = 0
        · subst he
          have H := H0.out
          rw [if_pos rfl] at H
          obtain ⟨wd, hW, H⟩ := Option.bind_eq_some_iff.1 H
          obtain ⟨mv, hmv⟩ : ∃ mv, Cal.moved 10 wd = mv := ⟨_, rfl⟩
          have HWd : Aside0 (∀ W, Calls Tryd.prog 53 #[.int .i64 t1] W fun e w' => e = .returned (.int .i64 wd) ∧ Drawn0 W w') := ⟨fun W => molad_Weekday.calls t1 wd W hW⟩
          have HM : Aside0 (∀ W, Calls Tryd.prog 29 #[.int .i64 10, .int .i64 wd] W fun e w' => e = .returned (.int .i64 mv) ∧ Drawn0 W w') := ⟨fun W => fast_Moved.calls 10 wd mv W (by rw [fast_Moved.f, hmv])⟩
          rw [hmv, if_neg (by decide)] at H
          have H1 := Aside0.mk H
          clear H hW hmv H0
          go_upto_region 10 with fail
          go_cut [7] (fun v7 wc => v7 = .int .i64 (wrap64 (t1 + mv)) ∧ Aside0 (Drawn0 W1 wc))
          case first =>
            go_region_held3 (fun V => Drawn0 W1 V ∧ V.cell? ⟨gx, 0, none⟩ = some (.int .i64 10)) (first | (have hz_ : Drawn0 W1 W1.drew := (Drawn0.refl W1).step 1; exact ⟨hz_, (blk_below HX1.out hz_.below |> fun h => blk_cell h 0)⟩) | (have hz_ := drawn_trans (And.left (by assumption)) hb; exact ⟨hz_, (blk_below HX1.out hz_.below |> fun h => blk_cell h 0)⟩)) (first | (go_at_call 53; refine (HWd.out _).mono ?_; rintro e w' ⟨rfl, hb⟩) | (go_at_call 29; refine (HM.out _).mono ?_; rintro e w' ⟨rfl, hb⟩))
            have HD := Aside0.mk (And.left (‹Drawn0 W1 _ ∧ _›))
            go_wp2_with fail
            go_meet
            case rel => exact ⟨by rw [← wrapEq64], HD⟩
          case rest =>
            obtain ⟨rfl, HD⟩ := hcut
            have HF2 := Aside0.mk (HF1.out.step HD.out.below)
            have HX2 := Aside0.mk (blk_below HX1.out HD.out.below)
            have HO2 := Aside0.mk (Kd.R_below HO1.out HD.out.below)
            clear HF1 HX1 HO1 HD HWd HM
            have hx0 : wc.cell? ⟨gx, 0, none⟩ = some (.int .i64 10) := blk_cell HX2.out 0
            go_wp2_with (first | ((with_reducible refine gate_builtin (b := .append) (xs := #[.tmp 51, .tmp 56]) rfl ?_); at_builtin; refine Kd.R_append k48 (w0 := w) w.heap.size rfl (.tmp 51) (.tmp 56) 38 48 (.agg #[(.int .i64 0), (.int .i64 0)]) 16 rfl Tryd.underlying38 infoEv rfl (by decide) (by omega) u4 (acc) (⟨10, wrap64 (t1 + mv)⟩ : S48) [.int .i64 10, .int .i64 (wrap64 (t1 + mv))] (fun _ => True) (fun _ => False) rfl rfl ?aP (fun _ hk => hk.elim) (fun _ _ => trivial) HO2.out HF2.out.below HF2.out.below.size ?aL ?_; (case aP => exact k48_mkM _ _ _ (⟨10, wrap64 (t1 + mv)⟩ : S48)); (case aL => first | omega | (simp; omega)); intro v1 W2 ho hb hg hat; have HO3 := Aside0.mk ho; have HF3 := Aside0.mk (FAt.grown HF2.out hb hg (Kd.R_base HO2.out) HGW.out (Kd.R_ne HO2.out HF2.out.arr (by decide))); have hx3 : W2.cell? ⟨gx, 0, none⟩ = some (.int .i64 10) := blk_cell (blk_grown HX2.out hg (Kd.R_ne HO2.out HX2.out (by decide))) 0; clear hx0; clear ho hb hg hat))
            exact ⟨⟨2, _, by omega, by simp; omega, rfl, H1, HO3, HF3⟩, by simp [intOf]⟩
        · have H := H0.out
          rw [if_neg he] at H
          have h' := Option.some.inj H
          simp only [Prod.mk.injEq] at h'
          obtain ⟨rfl, rfl⟩ := h'
          have he2 : (t2 != 0) = true := by simpa using he
          clear H H0 he HO1 HX1
          go_wp2_with fail
          go_ret2
          exact ⟨_, rfl, Kd.R_nil _ _ _ _ _, HF1.out.below⟩
      · have H := HG.out
        rw [show fastRows.drop 2 = (13, 6, 13) :: fastRows.drop 3 from rfl, fast_Of.go] at H
        obtain ⟨⟨t1, t2⟩, hT, H⟩ := Option.bind_eq_some_iff.1 H
        simp only at H
        clear HG
        have HT : Aside0 (∀ W, GlobT W → Calls Tryd.prog 52 #[.agg #[.int .i64 a0, .int .i64 6, .bool false, .int .i64 13]] W fun e w' => e = .returned (.tuple #[.int .i64 t1, .int .i64 t2]) ∧ Below W.heap.size W w') := ⟨fun W hW => heb_ToDay.calls 20 a0 6 false 13 t1 t2 W hW hT⟩
        have hz0 : wr.cell? ⟨w.heap.size, 6, none⟩ = some (.int .i64 13) := (blk_cell HF.out.arr 6).trans rfl
        have hz1 : wr.cell? ⟨w.heap.size, 7, none⟩ = some (.int .i64 6) := (blk_cell HF.out.arr 7).trans rfl
        have hz2 : wr.cell? ⟨w.heap.size, 8, none⟩ = some (.int .i64 13) := (blk_cell HF.out.arr 8).trans rfl
        have H0 := Aside0.mk H
        clear H hT
        go_wp2_with fail
        have hb0 := below_alloc (Below.refl wr.heap.size wr) (.cells #[.int .i64 13, .int .i64 6, .int .i64 13] 73)
        refine (HT.out _ (HF.out.glob.below hb0)).mono ?_
        rintro e W1 ⟨rfl, hb⟩
        have HF1 := Aside0.mk ((HF.out.step hb0).step hb)
        have HX1 := Aside0.mk (blk_below (blk_new wr (.cells #[.int .i64 13, .int .i64 6, .int .i64 13] 73)) hb)
        have HO1 := Aside0.mk (Kd.R_below (Kd.R_below HO.out hb0) hb)
        have HXL : Aside0 (w.heap.size ≤ wr.heap.size) := ⟨HF.out.below.size⟩
        clear hb hb0 hz0 hz1 hz2 HT HF HO
        generalize wr.heap.size = gx at *
        by_cases he : t2 = 0
        · subst he
          have H := H0.out
          rw [if_pos rfl] at H
          obtain ⟨wd, hW, H⟩ := Option.bind_eq_some_iff.1 H
          obtain ⟨mv, hmv⟩ : ∃ mv, Cal.moved 13 wd = mv := ⟨_, rfl⟩
          have HWd : Aside0 (∀ W, Calls Tryd.prog 53 #[.int .i64 t1] W fun e w' => e = .returned (.int .i64 wd) ∧ Drawn0 W w') := ⟨fun W => molad_Weekday.calls t1 wd W hW⟩
          have HM : Aside0 (∀ W, Calls Tryd.prog 29 #[.int .i64 13, .int .i64 wd] W fun e w' => e = .returned (.int .i64 mv) ∧ Drawn0 W w') := ⟨fun W => fast_Moved.calls 13 wd mv W (by rw [fast_Moved.f, hmv])⟩
          rw [hmv, if_neg (by decide)] at H
          have H1 := Aside0.mk H
          clear H hW hmv H0
          go_upto_region 10 with fail
          go_cut [7] (fun v7 wc => v7 = .int .i64 (wrap64 (t1 + mv)) ∧ Aside0 (Drawn0 W1 wc))
          case first =>
            go_region_held3 (fun V => Drawn0 W1 V ∧ V.cell? ⟨gx, 0, none⟩ = some (.int .i64 13)) (first | (have hz_ : Drawn0 W1 W1.drew := (Drawn0.refl W1).step 1; exact ⟨hz_, (blk_below HX1.out hz_.below |> fun h => blk_cell h 0)⟩) | (have hz_ := drawn_trans (And.left (by assumption)) hb; exact ⟨hz_, (blk_below HX1.out hz_.below |> fun h => blk_cell h 0)⟩)) (first | (go_at_call 53; refine (HWd.out _).mono ?_; rintro e w' ⟨rfl, hb⟩) | (go_at_call 29; refine (HM.out _).mono ?_; rintro e w' ⟨rfl, hb⟩))
            have HD := Aside0.mk (And.left (‹Drawn0 W1 _ ∧ _›))
            go_wp2_with fail
            go_meet
            case rel => exact ⟨by rw [← wrapEq64], HD⟩
          case rest =>
            obtain ⟨rfl, HD⟩ := hcut
            have HF2 := Aside0.mk (HF1.out.step HD.out.below)
            have HX2 := Aside0.mk (blk_below HX1.out HD.out.below)
            have HO2 := Aside0.mk (Kd.R_below HO1.out HD.out.below)
            clear HF1 HX1 HO1 HD HWd HM
            have hx0 : wc.cell? ⟨gx, 0, none⟩ = some (.int .i64 13) := blk_cell HX2.out 0
            go_wp2_with (first | ((with_reducible refine gate_builtin (b := .append) (xs := #[.tmp 51, .tmp 56]) rfl ?_); at_builtin; refine Kd.R_append k48 (w0 := w) w.heap.size rfl (.tmp 51) (.tmp 56) 38 48 (.agg #[(.int .i64 0), (.int .i64 0)]) 16 rfl Tryd.underlying38 infoEv rfl (by decide) (by omega) u4 (acc) (⟨13, wrap64 (t1 + mv)⟩ : S48) [.int .i64 13, .int .i64 (wrap64 (t1 + mv))] (fun _ => True) (fun _ => False) rfl rfl ?aP (fun _ hk => hk.elim) (fun _ _ => trivial) HO2.out HF2.out.below HF2.out.below.size ?aL ?_; (case aP => exact k48_mkM _ _ _ (⟨13, wrap64 (t1 + mv)⟩ : S48)); (case aL => first | omega | (simp; omega)); intro v1 W2 ho hb hg hat; have HO3 := Aside0.mk ho; have HF3 := Aside0.mk (FAt.grown HF2.out hb hg (Kd.R_base HO2.out) HGW.out (Kd.R_ne HO2.out HF2.out.arr (by decide))); have hx3 : W2.cell? ⟨gx, 0, none⟩ = some (.int .i64 13) := blk_cell (blk_grown HX2.out hg (Kd.R_ne HO2.out HX2.out (by decide))) 0; clear hx0; clear ho hb hg hat))
            exact ⟨⟨3, _, by omega, by simp; omega, rfl, H1, HO3, HF3⟩, by simp [intOf]⟩
        · have H := H0.out
          rw [if_neg he] at H
          have h' := Option.some.inj H
          simp only [Prod.mk.injEq] at h'
          obtain ⟨rfl, rfl⟩ := h'
          have he2 : (t2 != 0) = true := by simpa using he
          clear H H0 he HO1 HX1
          go_wp2_with fail
          go_ret2
          exact ⟨_, rfl, Kd.R_nil _ _ _ _ _, HF1.out.below⟩
      · have H := HG.out
        rw [show fastRows.drop 3 = (16, 7, 14) :: fastRows.drop 4 from rfl, fast_Of.go] at H
        obtain ⟨⟨t1, t2⟩, hT, H⟩ := Option.bind_eq_some_iff.1 H
        simp only at H
        clear HG
        have HT : Aside0 (∀ W, GlobT W → Calls Tryd.prog 52 #[.agg #[.int .i64 a0, .int .i64 7, .bool false, .int .i64 14]] W fun e w' => e = .returned (.tuple #[.int .i64 t1, .int .i64 t2]) ∧ Below W.heap.size W w') := ⟨fun W hW => heb_ToDay.calls 20 a0 7 false 14 t1 t2 W hW hT⟩
        have hz0 : wr.cell? ⟨w.heap.size, 9, none⟩ = some (.int .i64 16) := (blk_cell HF.out.arr 9).trans rfl
        have hz1 : wr.cell? ⟨w.heap.size, 10, none⟩ = some (.int .i64 7) := (blk_cell HF.out.arr 10).trans rfl
        have hz2 : wr.cell? ⟨w.heap.size, 11, none⟩ = some (.int .i64 14) := (blk_cell HF.out.arr 11).trans rfl
        have H0 := Aside0.mk H
        clear H hT
        go_wp2_with fail
        have hb0 := below_alloc (Below.refl wr.heap.size wr) (.cells #[.int .i64 16, .int .i64 7, .int .i64 14] 73)
        refine (HT.out _ (HF.out.glob.below hb0)).mono ?_
        rintro e W1 ⟨rfl, hb⟩
        have HF1 := Aside0.mk ((HF.out.step hb0).step hb)
        have HX1 := Aside0.mk (blk_below (blk_new wr (.cells #[.int .i64 16, .int .i64 7, .int .i64 14] 73)) hb)
        have HO1 := Aside0.mk (Kd.R_below (Kd.R_below HO.out hb0) hb)
        have HXL : Aside0 (w.heap.size ≤ wr.heap.size) := ⟨HF.out.below.size⟩
        clear hb hb0 hz0 hz1 hz2 HT HF HO
        generalize wr.heap.size = gx at *
        by_cases he : t2 = 0
        · subst he
          have H := H0.out
          rw [if_pos rfl] at H
          obtain ⟨wd, hW, H⟩ := Option.bind_eq_some_iff.1 H
          obtain ⟨mv, hmv⟩ : ∃ mv, Cal.moved 16 wd = mv := ⟨_, rfl⟩
          have HWd : Aside0 (∀ W, Calls Tryd.prog 53 #[.int .i64 t1] W fun e w' => e = .returned (.int .i64 wd) ∧ Drawn0 W w') := ⟨fun W => molad_Weekday.calls t1 wd W hW⟩
          have HM : Aside0 (∀ W, Calls Tryd.prog 29 #[.int .i64 16, .int .i64 wd] W fun e w' => e = .returned (.int .i64 mv) ∧ Drawn0 W w') := ⟨fun W => fast_Moved.calls 16 wd mv W (by rw [fast_Moved.f, hmv])⟩
          rw [hmv, if_neg (by decide)] at H
          have H1 := Aside0.mk H
          clear H hW hmv H0
          go_upto_region 10 with fail
          go_cut [7] (fun v7 wc => v7 = .int .i64 (wrap64 (t1 + mv)) ∧ Aside0 (Drawn0 W1 wc))
          case first =>
            go_region_held3 (fun V => Drawn0 W1 V ∧ V.cell? ⟨gx, 0, none⟩ = some (.int .i64 16)) (first | (have hz_ : Drawn0 W1 W1.drew := (Drawn0.refl W1).step 1; exact ⟨hz_, (blk_below HX1.out hz_.below |> fun h => blk_cell h 0)⟩) | (have hz_ := drawn_trans (And.left (by assumption)) hb; exact ⟨hz_, (blk_below HX1.out hz_.below |> fun h => blk_cell h 0)⟩)) (first | (go_at_call 53; refine (HWd.out _).mono ?_; rintro e w' ⟨rfl, hb⟩) | (go_at_call 29; refine (HM.out _).mono ?_; rintro e w' ⟨rfl, hb⟩))
            have HD := Aside0.mk (And.left (‹Drawn0 W1 _ ∧ _›))
            go_wp2_with fail
            go_meet
            case rel => exact ⟨by rw [← wrapEq64], HD⟩
          case rest =>
            obtain ⟨rfl, HD⟩ := hcut
            have HF2 := Aside0.mk (HF1.out.step HD.out.below)
            have HX2 := Aside0.mk (blk_below HX1.out HD.out.below)
            have HO2 := Aside0.mk (Kd.R_below HO1.out HD.out.below)
            clear HF1 HX1 HO1 HD HWd HM
            have hx0 : wc.cell? ⟨gx, 0, none⟩ = some (.int .i64 16) := blk_cell HX2.out 0
            go_wp2_with (first | ((with_reducible refine gate_builtin (b := .append) (xs := #[.tmp 51, .tmp 56]) rfl ?_); at_builtin; refine Kd.R_append k48 (w0 := w) w.heap.size rfl (.tmp 51) (.tmp 56) 38 48 (.agg #[(.int .i64 0), (.int .i64 0)]) 16 rfl Tryd.underlying38 infoEv rfl (by decide) (by omega) u4 (acc) (⟨16, wrap64 (t1 + mv)⟩ : S48) [.int .i64 16, .int .i64 (wrap64 (t1 + mv))] (fun _ => True) (fun _ => False) rfl rfl ?aP (fun _ hk => hk.elim) (fun _ _ => trivial) HO2.out HF2.out.below HF2.out.below.size ?aL ?_; (case aP => exact k48_mkM _ _ _ (⟨16, wrap64 (t1 + mv)⟩ : S48)); (case aL => first | omega | (simp; omega)); intro v1 W2 ho hb hg hat; have HO3 := Aside0.mk ho; have HF3 := Aside0.mk (FAt.grown HF2.out hb hg (Kd.R_base HO2.out) HGW.out (Kd.R_ne HO2.out HF2.out.arr (by decide))); have hx3 : W2.cell? ⟨gx, 0, none⟩ = some (.int .i64 16) := blk_cell (blk_grown HX2.out hg (Kd.R_ne HO2.out HX2.out (by decide))) 0; clear hx0; clear ho hb hg hat))
            exact ⟨⟨4, _, by omega, by simp; omega, rfl, H1, HO3, HF3⟩, by simp [intOf]⟩
        · have H := H0.out
          rw [if_neg he] at H
          have h' := Option.some.inj H
          simp only [Prod.mk.injEq] at h'
          obtain ⟨rfl, rfl⟩ := h'
          have he2 : (t2 != 0) = true := by simpa using he
          clear H H0 he HO1 HX1
          go_wp2_with fail
          go_ret2
          exact ⟨_, rfl, Kd.R_nil _ _ _ _ _, HF1.out.below⟩
      · have H := HG.out
        rw [show fastRows.drop 4 = (19, 7, 27) :: fastRows.drop 5 from rfl, fast_Of.go] at H
        obtain ⟨⟨t1, t2⟩, hT, H⟩ := Option.bind_eq_some_iff.1 H
        simp only at H
        clear HG
        have HT : Aside0 (∀ W, GlobT W → Calls Tryd.prog 52 #[.agg #[.int .i64 a0, .int .i64 7, .bool false, .int .i64 27]] W fun e w' => e = .returned (.tuple #[.int .i64 t1, .int .i64 t2]) ∧ Below W.heap.size W w') := ⟨fun W hW => heb_ToDay.calls 20 a0 7 false 27 t1 t2 W hW hT⟩
        have hz0 : wr.cell? ⟨w.heap.size, 12, none⟩ = some (.int .i64 19) := (blk_cell HF.out.arr 12).trans rfl
        have hz1 : wr.cell? ⟨w.heap.size, 13, none⟩ = some (.int .i64 7) := (blk_cell HF.out.arr 13).trans rfl
        have hz2 : wr.cell? ⟨w.heap.size, 14, none⟩ = some (.int .i64 27) := (blk_cell HF.out.arr 14).trans rfl
        have H0 := Aside0.mk H
        clear H hT
        go_wp2_with fail
        have hb0 := below_alloc (Below.refl wr.heap.size wr) (.cells #[.int .i64 19, .int .i64 7, .int .i64 27] 73)
        refine (HT.out _ (HF.out.glob.below hb0)).mono ?_
        rintro e W1 ⟨rfl, hb⟩
        have HF1 := Aside0.mk ((HF.out.step hb0).step hb)
        have HX1 := Aside0.mk (blk_below (blk_new wr (.cells #[.int .i64 19, .int .i64 7, .int .i64 27] 73)) hb)
        have HO1 := Aside0.mk (Kd.R_below (Kd.R_below HO.out hb0) hb)
        have HXL : Aside0 (w.heap.size ≤ wr.heap.size) := ⟨HF.out.below.size⟩
        clear hb hb0 hz0 hz1 hz2 HT HF HO
        generalize wr.heap.size = gx at *
        by_cases he : t2 = 0
        · subst he
          have H := H0.out
          rw [if_pos rfl] at H
          obtain ⟨wd, hW, H⟩ := Option.bind_eq_some_iff.1 H
          obtain ⟨mv, hmv⟩ : ∃ mv, Cal.moved 19 wd = mv := ⟨_, rfl⟩
          have HWd : Aside0 (∀ W, Calls Tryd.prog 53 #[.int .i64 t1] W fun e w' => e = .returned (.int .i64 wd) ∧ Drawn0 W w') := ⟨fun W => molad_Weekday.calls t1 wd W hW⟩
          have HM : Aside0 (∀ W, Calls Tryd.prog 29 #[.int .i64 19, .int .i64 wd] W fun e w' => e = .returned (.int .i64 mv) ∧ Drawn0 W w') := ⟨fun W => fast_Moved.calls 19 wd mv W (by rw [fast_Moved.f, hmv])⟩
          rw [hmv, if_neg (by decide)] at H
          have H1 := Aside0.mk H
          clear H hW hmv H0
          go_upto_region 10 with fail
          go_cut [7] (fun v7 wc => v7 = .int .i64 (wrap64 (t1 + mv)) ∧ Aside0 (Drawn0 W1 wc))
          case first =>
            go_region_held3 (fun V => Drawn0 W1 V ∧ V.cell? ⟨gx, 0, none⟩ = some (.int .i64 19)) (first | (have hz_ : Drawn0 W1 W1.drew := (Drawn0.refl W1).step 1; exact ⟨hz_, (blk_below HX1.out hz_.below |> fun h => blk_cell h 0)⟩) | (have hz_ := drawn_trans (And.left (by assumption)) hb; exact ⟨hz_, (blk_below HX1.out hz_.below |> fun h => blk_cell h 0)⟩)) (first | (go_at_call 53; refine (HWd.out _).mono ?_; rintro e w' ⟨rfl, hb⟩) | (go_at_call 29; refine (HM.out _).mono ?_; rintro e w' ⟨rfl, hb⟩))
            have HD := Aside0.mk (And.left (‹Drawn0 W1 _ ∧ _›))
            go_wp2_with fail
            go_meet
            case rel => exact ⟨by rw [← wrapEq64], HD⟩
          case rest =>
            obtain ⟨rfl, HD⟩ := hcut
            have HF2 := Aside0.mk (HF1.out.step HD.out.below)
            have HX2 := Aside0.mk (blk_below HX1.out HD.out.below)
            have HO2 := Aside0.mk (Kd.R_below HO1.out HD.out.below)
            clear HF1 HX1 HO1 HD HWd HM
            have hx0 : wc.cell? ⟨gx, 0, none⟩ = some (.int .i64 19) := blk_cell HX2.out 0
            go_wp2_with (first | ((with_reducible refine gate_builtin (b := .append) (xs := #[.tmp 51, .tmp 56]) rfl ?_); at_builtin; refine Kd.R_append k48 (w0 := w) w.heap.size rfl (.tmp 51) (.tmp 56) 38 48 (.agg #[(.int .i64 0), (.int .i64 0)]) 16 rfl Tryd.underlying38 infoEv rfl (by decide) (by omega) u4 (acc) (⟨19, wrap64 (t1 + mv)⟩ : S48) [.int .i64 19, .int .i64 (wrap64 (t1 + mv))] (fun _ => True) (fun _ => False) rfl rfl ?aP (fun _ hk => hk.elim) (fun _ _ => trivial) HO2.out HF2.out.below HF2.out.below.size ?aL ?_; (case aP => exact k48_mkM _ _ _ (⟨19, wrap64 (t1 + mv)⟩ : S48)); (case aL => first | omega | (simp; omega)); intro v1 W2 ho hb hg hat; have HO3 := Aside0.mk ho; have HF3 := Aside0.mk (FAt.grown HF2.out hb hg (Kd.R_base HO2.out) HGW.out (Kd.R_ne HO2.out HF2.out.arr (by decide))); have hx3 : W2.cell? ⟨gx, 0, none⟩ = some (.int .i64 19) := blk_cell (blk_grown HX2.out hg (Kd.R_ne HO2.out HX2.out (by decide))) 0; clear hx0; clear ho hb hg hat))
            exact ⟨⟨5, _, by omega, by simp; omega, rfl, H1, HO3, HF3⟩, by simp [intOf]⟩
        · have H := H0.out
          rw [if_neg he] at H
          have h' := Option.some.inj H
          simp only [Prod.mk.injEq] at h'
          obtain ⟨rfl, rfl⟩ := h'
          have he2 : (t2 != 0) = true := by simpa using he
          clear H H0 he HO1 HX1
          go_wp2_with fail
          go_ret2
          exact ⟨_, rfl, Kd.R_nil _ _ _ _ _, HF1.out.below⟩
      · have H := HG.out
        rw [show fastRows.drop 5 = (21, 8, 5) :: fastRows.drop 6 from rfl, fast_Of.go] at H
        obtain ⟨⟨t1, t2⟩, hT, H⟩ := Option.bind_eq_some_iff.1 H
        simp only at H
        clear HG
        have HT : Aside0 (∀ W, GlobT W → Calls Tryd.prog 52 #[.agg #[.int .i64 a0, .int .i64 8, .bool false, .int .i64 5]] W fun e w' => e = .returned (.tuple #[.int .i64 t1, .int .i64 t2]) ∧ Below W.heap.size W w') := ⟨fun W hW => heb_ToDay.calls 20 a0 8 false 5 t1 t2 W hW hT⟩
        have hz0 : wr.cell? ⟨w.heap.size, 15, none⟩ = some (.int .i64 21) := (blk_cell HF.out.arr 15).trans rfl
        have hz1 : wr.cell? ⟨w.heap.size, 16, none⟩ = some (.int .i64 8) := (blk_cell HF.out.arr 16).trans rfl
        have hz2 : wr.cell? ⟨w.heap.size, 17, none⟩ = some (.int .i64 5) := (blk_cell HF.out.arr 17).trans rfl
        have H0 := Aside0.mk H
        clear H hT
        go_wp2_with fail
        have hb0 := below_alloc (Below.refl wr.heap.size wr) (.cells #[.int .i64 21, .int .i64 8, .int .i64 5] 73)
        refine (HT.out _ (HF.out.glob.below hb0)).mono ?_
        rintro e W1 ⟨rfl, hb⟩
        have HF1 := Aside0.mk ((HF.out.step hb0).step hb)
        have HX1 := Aside0.mk (blk_below (blk_new wr (.cells #[.int .i64 21, .int .i64 8, .int .i64 5] 73)) hb)
        have HO1 := Aside0.mk (Kd.R_below (Kd.R_below HO.out hb0) hb)
        have HXL : Aside0 (w.heap.size ≤ wr.heap.size) := ⟨HF.out.below.size⟩
        clear hb hb0 hz0 hz1 hz2 HT HF HO
        generalize wr.heap.size = gx at *
        by_cases he : t2 = 0
        · subst he
          have H := H0.out
          rw [if_pos rfl] at H
          obtain ⟨wd, hW, H⟩ := Option.bind_eq_some_iff.1 H
          obtain ⟨mv, hmv⟩ : ∃ mv, Cal.moved 21 wd = mv := ⟨_, rfl⟩
          have HWd : Aside0 (∀ W, Calls Tryd.prog 53 #[.int .i64 t1] W fun e w' => e = .returned (.int .i64 wd) ∧ Drawn0 W w') := ⟨fun W => molad_Weekday.calls t1 wd W hW⟩
          have HM : Aside0 (∀ W, Calls Tryd.prog 29 #[.int .i64 21, .int .i64 wd] W fun e w' => e = .returned (.int .i64 mv) ∧ Drawn0 W w') := ⟨fun W => fast_Moved.calls 21 wd mv W (by rw [fast_Moved.f, hmv])⟩
          rw [hmv, if_pos True.intro] at H
          have H1 := Aside0.mk H
          clear H hW hmv H0
          go_upto_region 10 with fail
          go_cut [7] (fun v7 wc => v7 = .int .i64 (wrap64 (t1 + mv)) ∧ Aside0 (Drawn0 W1 wc))
          case first =>
            go_region_held3 (fun V => Drawn0 W1 V ∧ V.cell? ⟨gx, 0, none⟩ = some (.int .i64 21)) (first | (have hz_ : Drawn0 W1 W1.drew := (Drawn0.refl W1).step 1; exact ⟨hz_, (blk_below HX1.out hz_.below |> fun h => blk_cell h 0)⟩) | (have hz_ := drawn_trans (And.left (by assumption)) hb; exact ⟨hz_, (blk_below HX1.out hz_.below |> fun h => blk_cell h 0)⟩)) (first | (go_at_call 53; refine (HWd.out _).mono ?_; rintro e w' ⟨rfl, hb⟩) | (go_at_call 29; refine (HM.out _).mono ?_; rintro e w' ⟨rfl, hb⟩))
            have HD := Aside0.mk (And.left (‹Drawn0 W1 _ ∧ _›))
            go_wp2_with fail
            go_meet
            case rel => exact ⟨by rw [← wrapEq64], HD⟩
          case rest =>
            obtain ⟨rfl, HD⟩ := hcut
            have HF2 := Aside0.mk (HF1.out.step HD.out.below)
            have HX2 := Aside0.mk (blk_below HX1.out HD.out.below)
            have HO2 := Aside0.mk (Kd.R_below HO1.out HD.out.below)
            clear HF1 HX1 HO1 HD HWd HM
            have hx0 : wc.cell? ⟨gx, 0, none⟩ = some (.int .i64 21) := blk_cell HX2.out 0
            go_wp2_with (first | ((with_reducible refine gate_builtin (b := .append) (xs := #[.tmp 51, .tmp 56]) rfl ?_); at_builtin; refine Kd.R_append k48 (w0 := w) w.heap.size rfl (.tmp 51) (.tmp 56) 38 48 (.agg #[(.int .i64 0), (.int .i64 0)]) 16 rfl Tryd.underlying38 infoEv rfl (by decide) (by omega) u4 (acc) (⟨21, wrap64 (t1 + mv)⟩ : S48) [.int .i64 21, .int .i64 (wrap64 (t1 + mv))] (fun _ => True) (fun _ => False) rfl rfl ?aP (fun _ hk => hk.elim) (fun _ _ => trivial) HO2.out HF2.out.below HF2.out.below.size ?aL ?_; (case aP => exact k48_mkM _ _ _ (⟨21, wrap64 (t1 + mv)⟩ : S48)); (case aL => first | omega | (simp; omega)); intro v1 W2 ho hb hg hat; have HO3 := Aside0.mk ho; have HF3 := Aside0.mk (FAt.grown HF2.out hb hg (Kd.R_base HO2.out) HGW.out (Kd.R_ne HO2.out HF2.out.arr (by decide))); have hx3 : W2.cell? ⟨gx, 0, none⟩ = some (.int .i64 21) := blk_cell (blk_grown HX2.out hg (Kd.R_ne HO2.out HX2.out (by decide))) 0; clear hx0; clear ho hb hg hat) | ((with_reducible refine gate_builtin (b := .append) (xs := #[.tmp 61, .tmp 65]) rfl ?_); at_builtin; refine Kd.R_append k48 (w0 := w) w.heap.size rfl (.tmp 61) (.tmp 65) 38 48 (.agg #[(.int .i64 0), (.int .i64 0)]) 16 rfl Tryd.underlying38 infoEv rfl (by decide) (by omega) v1 (acc ++ [(⟨21, wrap64 (t1 + mv)⟩ : S48)]) (⟨20, wrap64 (wrap64 (t1 + mv) - 1)⟩ : S48) [.int .i64 20, .int .i64 (wrap64 (wrap64 (t1 + mv) - 1))] (fun _ => True) (fun _ => False) rfl rfl ?aP (fun _ hk => hk.elim) (fun _ _ => trivial) HO3.out HF3.out.below HF3.out.below.size ?aL ?_; (case aP => exact k48_mkM _ _ _ (⟨20, wrap64 (wrap64 (t1 + mv) - 1)⟩ : S48)); (case aL => first | omega | (simp; omega)); intro v5 W3 ho hb hg hat; have HO4 := Aside0.mk ho; have HF4 := Aside0.mk (FAt.grown HF3.out hb hg (Kd.R_base HO3.out) HGW.out (Kd.R_ne HO3.out HF3.out.arr (by decide))); clear ho hb hg hat))
            exact ⟨⟨6, _, by omega, by simp; omega, rfl, H1, HO4, HF4⟩, by simp [intOf]⟩
        · have H := H0.out
          rw [if_neg he] at H
          have h' := Option.some.inj H
          simp only [Prod.mk.injEq] at h'
          obtain ⟨rfl, rfl⟩ := h'
          have he2 : (t2 != 0) = true := by simpa using he
          clear H H0 he HO1 HX1
          go_wp2_with fail
          go_ret2
          exact ⟨_, rfl, Kd.R_nil _ _ _ _ _, HF1.out.below⟩
      · have H := HG.out
        rw [show fastRows.drop 6 = (24, 8, 28) :: fastRows.drop 7 from rfl, fast_Of.go] at H
        obtain ⟨⟨t1, t2⟩, hT, H⟩ := Option.bind_eq_some_iff.1 H
        simp only at H
        clear HG
        have HT : Aside0 (∀ W, GlobT W → Calls Tryd.prog 52 #[.agg #[.int .i64 a0, .int .i64 8, .bool false, .int .i64 28]] W fun e w' => e = .returned (.tuple #[.int .i64 t1, .int .i64 t2]) ∧ Below W.heap.size W w') := ⟨fun W hW => heb_ToDay.calls 20 a0 8 false 28 t1 t2 W hW hT⟩
        have hz0 : wr.cell? ⟨w.heap.size, 18, none⟩ = some (.int .i64 24) := (blk_cell HF.out.arr 18).trans rfl
        have hz1 : wr.cell? ⟨w.heap.size, 19, none⟩ = some (.int .i64 8) := (blk_cell HF.out.arr 19).trans rfl
        have hz2 : wr.cell? ⟨w.heap.size, 20, none⟩ = some (.int .i64 28) := (blk_cell HF.out.arr 20).trans rfl
        have H0 := Aside0.mk H
        clear H hT
        go_wp2_with fail
        have hb0 := below_alloc (Below.refl wr.heap.size wr) (.cells #[.int .i64 24, .int .i64 8, .int .i64 28] 73)
        refine (HT.out _ (HF.out.glob.below hb0)).mono ?_
        rintro e W1 ⟨rfl, hb⟩
        have HF1 := Aside0.mk ((HF.out.step hb0).step hb)
        have HX1 := Aside0.mk (blk_below (blk_new wr (.cells #[.int .i64 24, .int .i64 8, .int .i64 28] 73)) hb)
        have HO1 := Aside0.mk (Kd.R_below (Kd.R_below HO.out hb0) hb)
        have HXL : Aside0 (w.heap.size ≤ wr.heap.size) := ⟨HF.out.below.size⟩
        clear hb hb0 hz0 hz1 hz2 HT HF HO
        generalize wr.heap.size = gx at *
        by_cases he : t2 = 0
        · subst he
          have H := H0.out
          rw [if_pos rfl] at H
          obtain ⟨wd, hW, H⟩ := Option.bind_eq_some_iff.1 H
          obtain ⟨mv, hmv⟩ : ∃ mv, Cal.moved 24 wd = mv := ⟨_, rfl⟩
          have HWd : Aside0 (∀ W, Calls Tryd.prog 53 #[.int .i64 t1] W fun e w' => e = .returned (.int .i64 wd) ∧ Drawn0 W w') := ⟨fun W => molad_Weekday.calls t1 wd W hW⟩
          have HM : Aside0 (∀ W, Calls Tryd.prog 29 #[.int .i64 24, .int .i64 wd] W fun e w' => e = .returned (.int .i64 mv) ∧ Drawn0 W w') := ⟨fun W => fast_Moved.calls 24 wd mv W (by rw [fast_Moved.f, hmv])⟩
          rw [hmv, if_neg (by decide)] at H
          have H1 := Aside0.mk H
          clear H hW hmv H0
          go_upto_region 10 with fail
          go_cut [7] (fun v7 wc => v7 = .int .i64 (wrap64 (t1 + mv)) ∧ Aside0 (Drawn0 W1 wc))
          case first =>
            go_region_held3 (fun V => Drawn0 W1 V ∧ V.cell? ⟨gx, 0, none⟩ = some (.int .i64 24)) (first | (have hz_ : Drawn0 W1 W1.drew := (Drawn0.refl W1).step 1; exact ⟨hz_, (blk_below HX1.out hz_.below |> fun h => blk_cell h 0)⟩) | (have hz_ := drawn_trans (And.left (by assumption)) hb; exact ⟨hz_, (blk_below HX1.out hz_.below |> fun h => blk_cell h 0)⟩)) (first | (go_at_call 53; refine (HWd.out _).mono ?_; rintro e w' ⟨rfl, hb⟩) | (go_at_call 29; refine (HM.out _).mono ?_; rintro e w' ⟨rfl, hb⟩))
            have HD := Aside0.mk (And.left (‹Drawn0 W1 _ ∧ _›))
            go_wp2_with fail
            go_meet
            case rel => exact ⟨by rw [← wrapEq64], HD⟩
          case rest =>
            obtain ⟨rfl, HD⟩ := hcut
            have HF2 := Aside0.mk (HF1.out.step HD.out.below)
            have HX2 := Aside0.mk (blk_below HX1.out HD.out.below)
            have HO2 := Aside0.mk (Kd.R_below HO1.out HD.out.below)
            clear HF1 HX1 HO1 HD HWd HM
            have hx0 : wc.cell? ⟨gx, 0, none⟩ = some (.int .i64 24) := blk_cell HX2.out 0
            go_wp2_with (first | ((with_reducible refine gate_builtin (b := .append) (xs := #[.tmp 51, .tmp 56]) rfl ?_); at_builtin; refine Kd.R_append k48 (w0 := w) w.heap.size rfl (.tmp 51) (.tmp 56) 38 48 (.agg #[(.int .i64 0), (.int .i64 0)]) 16 rfl Tryd.underlying38 infoEv rfl (by decide) (by omega) u4 (acc) (⟨24, wrap64 (t1 + mv)⟩ : S48) [.int .i64 24, .int .i64 (wrap64 (t1 + mv))] (fun _ => True) (fun _ => False) rfl rfl ?aP (fun _ hk => hk.elim) (fun _ _ => trivial) HO2.out HF2.out.below HF2.out.below.size ?aL ?_; (case aP => exact k48_mkM _ _ _ (⟨24, wrap64 (t1 + mv)⟩ : S48)); (case aL => first | omega | (simp; omega)); intro v1 W2 ho hb hg hat; have HO3 := Aside0.mk ho; have HF3 := Aside0.mk (FAt.grown HF2.out hb hg (Kd.R_base HO2.out) HGW.out (Kd.R_ne HO2.out HF2.out.arr (by decide))); have hx3 : W2.cell? ⟨gx, 0, none⟩ = some (.int .i64 24) := blk_cell (blk_grown HX2.out hg (Kd.R_ne HO2.out HX2.out (by decide))) 0; clear hx0; clear ho hb hg hat))
            exact ⟨⟨7, _, by omega, by simp; omega, rfl, H1, HO3, HF3⟩, by simp [intOf]⟩
        · have H := H0.out
          rw [if_neg he] at H
          have h' := Option.some.inj H
          simp only [Prod.mk.injEq] at h'
          obtain ⟨rfl, rfl⟩ := h'
          have he2 : (t2 != 0) = true := by simpa using he
          clear H H0 he HO1 HX1
          go_wp2_with fail
          go_ret2
          exact ⟨_, rfl, Kd.R_nil _ _ _ _ _, HF1.out.below⟩
      · have H := HG.out
        rw [show fastRows.drop 7 = (26, 10, 17) :: fastRows.drop 8 from rfl, fast_Of.go] at H
        obtain ⟨⟨t1, t2⟩, hT, H⟩ := Option.bind_eq_some_iff.1 H
        simp only at H
        clear HG
        have HT : Aside0 (∀ W, GlobT W → Calls Tryd.prog 52 #[.agg #[.int .i64 a0, .int .i64 10, .bool false, .int .i64 17]] W fun e w' => e = .returned (.tuple #[.int .i64 t1, .int .i64 t2]) ∧ Below W.heap.size W w') := ⟨fun W hW => heb_ToDay.calls 20 a0 10 false 17 t1 t2 W hW hT⟩
        have hz0 : wr.cell? ⟨w.heap.size, 21, none⟩ = some (.int .i64 26) := (blk_cell HF.out.arr 21).trans rfl
        have hz1 : wr.cell? ⟨w.heap.size, 22, none⟩ = some (.int .i64 10) := (blk_cell HF.out.arr 22).trans rfl
        have hz2 : wr.cell? ⟨w.heap.size, 23, none⟩ = some (.int .i64 17) := (blk_cell HF.out.arr 23).trans rfl
        have H0 := Aside0.mk H
        clear H hT
        go_wp2_with fail
        have hb0 := below_alloc (Below.refl wr.heap.size wr) (.cells #[.int .i64 26, .int .i64 10, .int .i64 17] 73)
        refine (HT.out _ (HF.out.glob.below hb0)).mono ?_
        rintro e W1 ⟨rfl, hb⟩
        have HF1 := Aside0.mk ((HF.out.step hb0).step hb)
        have HX1 := Aside0.mk (blk_below (blk_new wr (.cells #[.int .i64 26, .int .i64 10, .int .i64 17] 73)) hb)
        have HO1 := Aside0.mk (Kd.R_below (Kd.R_below HO.out hb0) hb)
        have HXL : Aside0 (w.heap.size ≤ wr.heap.size) := ⟨HF.out.below.size⟩
        clear hb hb0 hz0 hz1 hz2 HT HF HO
        generalize wr.heap.size = gx at *
        by_cases he : t2 = 0
        · subst he
          have H := H0.out
          rw [if_pos rfl] at H
          obtain ⟨wd, hW, H⟩ := Option.bind_eq_some_iff.1 H
          obtain ⟨mv, hmv⟩ : ∃ mv, Cal.moved 26 wd = mv := ⟨_, rfl⟩
          have HWd : Aside0 (∀ W, Calls Tryd.prog 53 #[.int .i64 t1] W fun e w' => e = .returned (.int .i64 wd) ∧ Drawn0 W w') := ⟨fun W => molad_Weekday.calls t1 wd W hW⟩
          have HM : Aside0 (∀ W, Calls Tryd.prog 29 #[.int .i64 26, .int .i64 wd] W fun e w' => e = .returned (.int .i64 mv) ∧ Drawn0 W w') := ⟨fun W => fast_Moved.calls 26 wd mv W (by rw [fast_Moved.f, hmv])⟩
          rw [hmv, if_neg (by decide)] at H
          have H1 := Aside0.mk H
          clear H hW hmv H0
          go_upto_region 10 with fail
          go_cut [7] (fun v7 wc => v7 = .int .i64 (wrap64 (t1 + mv)) ∧ Aside0 (Drawn0 W1 wc))
          case first =>
            go_region_held3 (fun V => Drawn0 W1 V ∧ V.cell? ⟨gx, 0, none⟩ = some (.int .i64 26)) (first | (have hz_ : Drawn0 W1 W1.drew := (Drawn0.refl W1).step 1; exact ⟨hz_, (blk_below HX1.out hz_.below |> fun h => blk_cell h 0)⟩) | (have hz_ := drawn_trans (And.left (by assumption)) hb; exact ⟨hz_, (blk_below HX1.out hz_.below |> fun h => blk_cell h 0)⟩)) (first | (go_at_call 53; refine (HWd.out _).mono ?_; rintro e w' ⟨rfl, hb⟩) | (go_at_call 29; refine (HM.out _).mono ?_; rintro e w' ⟨rfl, hb⟩))
            have HD := Aside0.mk (And.left (‹Drawn0 W1 _ ∧ _›))
            go_wp2_with fail
            go_meet
            case rel => exact ⟨by rw [← wrapEq64], HD⟩
          case rest =>
            obtain ⟨rfl, HD⟩ := hcut
            have HF2 := Aside0.mk (HF1.out.step HD.out.below)
            have HX2 := Aside0.mk (blk_below HX1.out HD.out.below)
            have HO2 := Aside0.mk (Kd.R_below HO1.out HD.out.below)
            clear HF1 HX1 HO1 HD HWd HM
            have hx0 : wc.cell? ⟨gx, 0, none⟩ = some (.int .i64 26) := blk_cell HX2.out 0
            go_wp2_with (first | ((with_reducible refine gate_builtin (b := .append) (xs := #[.tmp 51, .tmp 56]) rfl ?_); at_builtin; refine Kd.R_append k48 (w0 := w) w.heap.size rfl (.tmp 51) (.tmp 56) 38 48 (.agg #[(.int .i64 0), (.int .i64 0)]) 16 rfl Tryd.underlying38 infoEv rfl (by decide) (by omega) u4 (acc) (⟨26, wrap64 (t1 + mv)⟩ : S48) [.int .i64 26, .int .i64 (wrap64 (t1 + mv))] (fun _ => True) (fun _ => False) rfl rfl ?aP (fun _ hk => hk.elim) (fun _ _ => trivial) HO2.out HF2.out.below HF2.out.below.size ?aL ?_; (case aP => exact k48_mkM _ _ _ (⟨26, wrap64 (t1 + mv)⟩ : S48)); (case aL => first | omega | (simp; omega)); intro v1 W2 ho hb hg hat; have HO3 := Aside0.mk ho; have HF3 := Aside0.mk (FAt.grown HF2.out hb hg (Kd.R_base HO2.out) HGW.out (Kd.R_ne HO2.out HF2.out.arr (by decide))); have hx3 : W2.cell? ⟨gx, 0, none⟩ = some (.int .i64 26) := blk_cell (blk_grown HX2.out hg (Kd.R_ne HO2.out HX2.out (by decide))) 0; clear hx0; clear ho hb hg hat))
            exact ⟨⟨8, _, by omega, by simp; omega, rfl, H1, HO3, HF3⟩, by simp [intOf]⟩
        · have H := H0.out
          rw [if_neg he] at H
          have h' := Option.some.inj H
          simp only [Prod.mk.injEq] at h'
          obtain ⟨rfl, rfl⟩ := h'
          have he2 : (t2 != 0) = true := by simpa using he
          clear H H0 he HO1 HX1
          go_wp2_with fail
          go_ret2
          exact ⟨_, rfl, Kd.R_nil _ _ _ _ _, HF1.out.below⟩
      · have H := HG.out
        rw [show fastRows.drop 8 = (27, 11, 9) :: fastRows.drop 9 from rfl, fast_Of.go] at H
        obtain ⟨⟨t1, t2⟩, hT, H⟩ := Option.bind_eq_some_iff.1 H
        simp only at H
        clear HG
        have HT : Aside0 (∀ W, GlobT W → Calls Tryd.prog 52 #[.agg #[.int .i64 a0, .int .i64 11, .bool false, .int .i64 9]] W fun e w' => e = .returned (.tuple #[.int .i64 t1, .int .i64 t2]) ∧ Below W.heap.size W w') := ⟨fun W hW => heb_ToDay.calls 20 a0 11 false 9 t1 t2 W hW hT⟩
        have hz0 : wr.cell? ⟨w.heap.size, 24, none⟩ = some (.int .i64 27) := (blk_cell HF.out.arr 24).trans rfl
        have hz1 : wr.cell? ⟨w.heap.size, 25, none⟩ = some (.int .i64 11) := (blk_cell HF.out.arr 25).trans rfl
        have hz2 : wr.cell? ⟨w.heap.size, 26, none⟩ = some (.int .i64 9) := (blk_cell HF.out.arr 26).trans rfl
        have H0 := Aside0.mk H
        clear H hT
        go_wp2_with fail
        have hb0 := below_alloc (Below.refl wr.heap.size wr) (.cells #[.int .i64 27, .int .i64 11, .int .i64 9] 73)
        refine (HT.out _ (HF.out.glob.below hb0)).mono ?_
        rintro e W1 ⟨rfl, hb⟩
        have HF1 := Aside0.mk ((HF.out.step hb0).step hb)
        have HX1 := Aside0.mk (blk_below (blk_new wr (.cells #[.int .i64 27, .int .i64 11, .int .i64 9] 73)) hb)
        have HO1 := Aside0.mk (Kd.R_below (Kd.R_below HO.out hb0) hb)
        have HXL : Aside0 (w.heap.size ≤ wr.heap.size) := ⟨HF.out.below.size⟩
        clear hb hb0 hz0 hz1 hz2 HT HF HO
        generalize wr.heap.size = gx at *
        by_cases he : t2 = 0
        · subst he
          have H := H0.out
          rw [if_pos rfl] at H
          obtain ⟨wd, hW, H⟩ := Option.bind_eq_some_iff.1 H
          obtain ⟨mv, hmv⟩ : ∃ mv, Cal.moved 27 wd = mv := ⟨_, rfl⟩
          have HWd : Aside0 (∀ W, Calls Tryd.prog 53 #[.int .i64 t1] W fun e w' => e = .returned (.int .i64 wd) ∧ Drawn0 W w') := ⟨fun W => molad_Weekday.calls t1 wd W hW⟩
          have HM : Aside0 (∀ W, Calls Tryd.prog 29 #[.int .i64 27, .int .i64 wd] W fun e w' => e = .returned (.int .i64 mv) ∧ Drawn0 W w') := ⟨fun W => fast_Moved.calls 27 wd mv W (by rw [fast_Moved.f, hmv])⟩
          rw [hmv, if_neg (by decide)] at H
          have H1 := Aside0.mk H
          clear H hW hmv H0
          go_upto_region 10 with fail
          go_cut [7] (fun v7 wc => v7 = .int .i64 (wrap64 (t1 + mv)) ∧ Aside0 (Drawn0 W1 wc))
          case first =>
            go_region_held3 (fun V => Drawn0 W1 V ∧ V.cell? ⟨gx, 0, none⟩ = some (.int .i64 27)) (first | (have hz_ : Drawn0 W1 W1.drew := (Drawn0.refl W1).step 1; exact ⟨hz_, (blk_below HX1.out hz_.below |> fun h => blk_cell h 0)⟩) | (have hz_ := drawn_trans (And.left (by assumption)) hb; exact ⟨hz_, (blk_below HX1.out hz_.below |> fun h => blk_cell h 0)⟩)) (first | (go_at_call 53; refine (HWd.out _).mono ?_; rintro e w' ⟨rfl, hb⟩) | (go_at_call 29; refine (HM.out _).mono ?_; rintro e w' ⟨rfl, hb⟩))
            have HD := Aside0.mk (And.left (‹Drawn0 W1 _ ∧ _›))
            go_wp2_with fail
            go_meet
            case rel => exact ⟨by rw [← wrapEq64], HD⟩
          case rest =>
            obtain ⟨rfl, HD⟩ := hcut
            have HF2 := Aside0.mk (HF1.out.step HD.out.below)
            have HX2 := Aside0.mk (blk_below HX1.out HD.out.below)
            have HO2 := Aside0.mk (Kd.R_below HO1.out HD.out.below)
            clear HF1 HX1 HO1 HD HWd HM
            have hx0 : wc.cell? ⟨gx, 0, none⟩ = some (.int .i64 27) := blk_cell HX2.out 0
            go_wp2_with (first | ((with_reducible refine gate_builtin (b := .append) (xs := #[.tmp 51, .tmp 56]) rfl ?_); at_builtin; refine Kd.R_append k48 (w0 := w) w.heap.size rfl (.tmp 51) (.tmp 56) 38 48 (.agg #[(.int .i64 0), (.int .i64 0)]) 16 rfl Tryd.underlying38 infoEv rfl (by decide) (by omega) u4 (acc) (⟨27, wrap64 (t1 + mv)⟩ : S48) [.int .i64 27, .int .i64 (wrap64 (t1 + mv))] (fun _ => True) (fun _ => False) rfl rfl ?aP (fun _ hk => hk.elim) (fun _ _ => trivial) HO2.out HF2.out.below HF2.out.below.size ?aL ?_; (case aP => exact k48_mkM _ _ _ (⟨27, wrap64 (t1 + mv)⟩ : S48)); (case aL => first | omega | (simp; omega)); intro v1 W2 ho hb hg hat; have HO3 := Aside0.mk ho; have HF3 := Aside0.mk (FAt.grown HF2.out hb hg (Kd.R_base HO2.out) HGW.out (Kd.R_ne HO2.out HF2.out.arr (by decide))); have hx3 : W2.cell? ⟨gx, 0, none⟩ = some (.int .i64 27) := blk_cell (blk_grown HX2.out hg (Kd.R_ne HO2.out HX2.out (by decide))) 0; clear hx0; clear ho hb hg hat))
            exact ⟨⟨9, _, by omega, by simp; omega, rfl, H1, HO3, HF3⟩, by simp [intOf]⟩
        · have H := H0.out
          rw [if_neg he] at H
          have h' := Option.some.inj H
          simp only [Prod.mk.injEq] at h'
          obtain ⟨rfl, rfl⟩ := h'
          have he2 : (t2 != 0) = true := by simpa using he
          clear H H0 he HO1 HX1
          go_wp2_with fail
          go_ret2
          exact ⟨_, rfl, Kd.R_nil _ _ _ _ _, HF1.out.below⟩
      · have H := HG.out
        rw [show fastRows.drop 9 = [] from rfl, fast_Of.go] at H
        obtain ⟨s, hs, H⟩ := Option.bind_eq_some_iff.1 H
        have h' := Option.some.inj H
        simp only [Prod.mk.injEq] at h'
        obtain ⟨rfl, rfl⟩ := h'
        obtain ⟨A, c, hv, hc, hC⟩ := Kd.R_reads HO.out
        subst hv
        have HS := Aside0.mk (feast_Sort.calls A c acc s wr hC hc hs)
        clear H HG hs hC
        go_wp2_with fail
        refine HS.out.mono ?_
        rintro e W1 ⟨v0, rfl, hR, hb⟩
        have HR := Aside0.mk (Kd.R_lower hR HF.out.below.size)
        have HB := Aside0.mk (HF.out.below.trans (hb.mono HF.out.below.size))
        clear hR hb
        go_wp2_with fail
        go_ret2
        exact ⟨_, rfl, HR.out, HB.out⟩

end Go.Proofs.YtflpddhoiafhcaaDoor.F
