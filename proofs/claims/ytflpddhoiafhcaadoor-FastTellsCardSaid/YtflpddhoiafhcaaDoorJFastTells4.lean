/- Texts of the proof of 'FastTells', joined by a program (part 4): contracts of functions, plain laws. -/
import Derived.Test.YtflpddhoiafhcaaDoorJFastTells2
import Derived.Test.YtflpddhoiafhcaaDoorJFastTells3
section
-- Written by wip/hprint.py of this repo (holes typed by hand, all else by a program) over the seat YtflpddhoiafhcaaDoor.
namespace Go.Proofs.YtflpddhoiafhcaaDoor.G
open Go.Proofs.YtflpddhoiafhcaaDoor.H
open Go.RowKit Go.Proofs.YtflpddhoiafhcaaDoorW.PrintWords Go.Proofs.YtflpddhoiafhcaaDoorW.PrintLast Go.Proofs.YtflpddhoiafhcaaDoorW.PrintMore
attribute [local go_sem] max2_int min2_int max_two min_two max_three min_three max_four min_four   -- for this text's walks alone
set_option linter.unusedVariables false
set_option linter.unusedSimpArgs false

def fastRows : List (Int × Int × Int) := [(2, 1, 3), (10, 4, 10), (13, 6, 13), (16, 7, 14), (19, 7, 27), (21, 8, 5), (24, 8, 28), (26, 10, 17), (27, 11, 9)]
def fast_Of.go (y : Int) : List (Int × Int × Int) → List S48 → Option (List S48 × Int)
  | [], l => (feast_Sort.f l).bind fun s => some (s, 0)
  | (kd, m, d) :: r, l => (heb_ToDay.f 20 y m false d).bind fun t => if t.2 = 0 then (molad_Weekday.f t.1).bind fun wd =>
      (if kd = 21 then fast_Of.go y r (l ++ [⟨kd, wrap64 (t.1 + Cal.moved kd wd)⟩] ++ [⟨20, wrap64 (wrap64 (t.1 + Cal.moved kd wd) - 1)⟩]) else fast_Of.go y r (l ++ [⟨kd, wrap64 (t.1 + Cal.moved kd wd)⟩])) else some ([], t.2)
def fast_Of.f (a0 : Int) : Option (List S48 × Int) := if a0 < 1 ∨ a0 > 9999 then some ([], 2) else fast_Of.go a0 fastRows []
/-- What the walk holds of its world: elder memory stands; the variables read as laid; the list of the days stands. -/
structure FAt (w : World) (ga : Nat) (W : World) : Prop where
  below : Below w.heap.size w W
  glob : GlobT W
  arr : W.heap[ga]? = some (.cells #[.int .i64 2, .int .i64 1, .int .i64 3, .int .i64 10, .int .i64 4, .int .i64 10, .int .i64 13, .int .i64 6, .int .i64 13, .int .i64 16, .int .i64 7, .int .i64 14, .int .i64 19, .int .i64 7, .int .i64 27, .int .i64 21, .int .i64 8, .int .i64 5, .int .i64 24, .int .i64 8, .int .i64 28, .int .i64 26, .int .i64 10, .int .i64 17, .int .i64 27, .int .i64 11, .int .i64 9] 73)
theorem FAt.step {w : World} {ga : Nat} {W W' : World} (h : FAt w ga W) (hb : Below W.heap.size W W') : FAt w ga W' :=
  ⟨h.below.trans (hb.mono h.below.size), h.glob.below hb, blk_below h.arr hb⟩
theorem FAt.grown {w : World} {ga : Nat} {W W' : World} {row : Option Nat} (h : FAt w ga W) (hb : Below w.heap.size w W') (hg : W.grownBy W' row) (hrow : ∀ k, row = some k → w.heap.size ≤ k) (HG : GlobT w) (hne : some ga ≠ row) : FAt w ga W' :=
  ⟨hb, HG.below hb, blk_grown h.arr hg hne⟩
theorem infoEv : (Tryd.prog.info? 48).map (fun i => (i.zero, i.size, i.bytes)) = some (some (.agg #[(.int .i64 0), (.int .i64 0)]), 2, 16) := by kernel_rfl
theorem wrapEq64 (x : Int) : IntKind.i64.wrap x = wrap64 x := by unfold IntKind.wrap wrap64; simp [IntKind.signed, IntKind.bits]; split <;> omega
theorem drawn_trans {a b c : World} (h : Drawn0 a b) (k : Drawn0 b c) : Drawn0 a c := by
  obtain ⟨⟨n, rfl⟩⟩ := h
  obtain ⟨⟨m, rfl⟩⟩ := k
  exact (Drawn0.refl a).step n |>.step m
set_option maxHeartbeats 16000000 in
set_option maxRecDepth 100000 in
theorem fast_Of.calls (a0 : Int) (r1 : List S48) (r2 : Int) (w : World) (HG : GlobT w) (h : fast_Of.f a0 = some (r1, r2)) :
    Calls Tryd.prog 26 #[.int .i64 a0] w fun e w' => ∃ v0_ : Value, e = .returned (.tuple #[v0_, .int .i64 r2]) ∧ Kd.R k48 48 w' w.heap.size (fun _ => True) v0_ r1 ∧ Below w.heap.size w w' := by
  have HGW := Aside0.mk HG
  by_cases hr : a0 < 1 ∨ a0 > 9999
  · rw [fast_Of.f, if_pos hr] at h
    have h' := Option.some.inj h
    simp only [Prod.mk.injEq] at h'
    obtain ⟨rfl, rfl⟩ := h'
    clear HG h
    by_cases h1 : a0 < 1
    · have c1 : decide (a0 < 1) = true := decide_eq_true h1
      clear hr h1
      go_enter Tryd.func26, Tryd.ntmps26
      go_wp2_with fail
      go_ret2
      exact ⟨_, rfl, Kd.R_nil _ _ _ _ _, Below.refl _ _⟩
    · have c1 : decide (a0 < 1) = false := decide_eq_false h1
      have c2 : decide (9999 < a0) = true := decide_eq_true (by omega)
      clear hr h1
      go_enter Tryd.func26, Tryd.ntmps26
      go_wp2_with fail
      go_ret2
      exact ⟨_, rfl, Kd.R_nil _ _ _ _ _, Below.refl _ _⟩
  · rw [fast_Of.f, if_neg hr] at h
    have c1 : decide (a0 < 1) = false := decide_eq_false (by omega)
    have c2 : decide (9999 < a0) = false := decide_eq_false (by omega)
    clear hr
    have HH := Aside0.mk h
    have HA0 : Aside0 (FAt w w.heap.size (w.alloc (.cells #[.int .i64 2, .int .i64 1, .int .i64 3, .int .i64 10, .int .i64 4, .int .i64 10, .int .i64 13, .int .i64 6, .int .i64 13, .int .i64 16, .int .i64 7, .int .i64 14, .int .i64 19, .int .i64 7, .int .i64 27, .int .i64 21, .int .i64 8, .int .i64 5, .int .i64 24, .int .i64 8, .int .i64 28, .int .i64 26, .int .i64 10, .int .i64 17, .int .i64 27, .int .i64 11, .int .i64 9] 73))) := ⟨⟨below_alloc (Below.refl _ _) _, HG.below (below_alloc (Below.refl _ _) _), blk_new _ _⟩⟩
    clear HG h
    go_enter Tryd.func26, Tryd.ntmps26
    go_wp2_with fail
    have HRN : Aside0 (Kd.R k48 48 (w.alloc (.cells #[.int .i64 2, .int .i64 1, .int .i64 3, .int .i64 10, .int .i64 4, .int .i64 10, .int .i64 13, .int .i64 6, .int .i64 13, .int .i64 16, .int .i64 7, .int .i64 14, .int .i64 19, .int .i64 7, .int .i64 27, .int .i64 21, .int .i64 8, .int .i64 5, .int .i64 24, .int .i64 8, .int .i64 28, .int .i64 26, .int .i64 10, .int .i64 17, .int .i64 27, .int .i64 11, .int .i64 9] 73)) w.heap.size (fun _ => True) (.slice none 0 0) []) := ⟨Kd.R_nil _ _ _ _ _⟩
    go_loopw [4, 26] (fun s4 s26 wr => ∃ (i : Nat) (acc : List S48), i ≤ 9 ∧ acc.length ≤ 2 * i ∧ s26 = .int .i64 i ∧ Aside0 (fast_Of.go a0 (fastRows.drop i) acc = some (r1, r2)) ∧ Aside0 (Kd.R k48 48 wr w.heap.size (fun _ => True) s4 acc) ∧ Aside0 (FAt w w.heap.size wr)) (fun _ s26 _ => 9 - (intOf s26).toNat)
    case atStart => exact ⟨0, [], by omega, by simp, rfl, HH, HRN, HA0⟩
    case round =>
      obtain ⟨i, acc, hi, hlen, rfl, HG, HO, HF⟩ := hrel
      clear HH HA0 HRN
      rcases (by omega : i = 0 ∨ i = 1 ∨ i = 2 ∨ i = 3 ∨ i = 4 ∨ i = 5 ∨ i = 6 ∨ i = 7 ∨ i = 8 ∨ i = 9) with rfl | rfl | rfl | rfl | rfl | rfl | rfl | rfl | rfl | rfl
      · have H := HG.out
        rw [show fastRows.drop 0 = (2, 1, 3) :: fastRows.drop 1 from rfl, fast_Of.go] at H
        obtain ⟨⟨t1, t2⟩, hT, H⟩ := Option.bind_eq_some_iff.1 H
        simp only at H
        clear HG
        have HT : Aside0 (∀ W, GlobT W → Calls Tryd.prog 52 #[.agg #[.int .i64 a0, .int .i64 1, .bool false, .int .i64 3]] W fun e w' => e = .returned (.tuple #[.int .i64 t1, .int .i64 t2]) ∧ Below W.heap.size W w') := ⟨fun W hW => heb_ToDay.calls 20 a0 1 false 3 t1 t2 W hW hT⟩
        have hz0 : wr.cell? ⟨w.heap.size, 0, none⟩ = some (.int .i64 2) := (blk_cell HF.out.arr 0).trans rfl
        have hz1 : wr.cell? ⟨w.heap.size, 1, none⟩ = some (.int .i64 1) := (blk_cell HF.out.arr 1).trans rfl
        have hz2 : wr.cell? ⟨w.heap.size, 2, none⟩ = some (.int .i64 3) := (blk_cell HF.out.arr 2).trans rfl
        have H0 := Aside0.mk H
        clear H hT
        go_wp2_with fail
        have hb0 := below_alloc (Below.refl wr.heap.size wr) (.cells #[.int .i64 2, .int .i64 1, .int .i64 3] 73)
        refine (HT.out _ (HF.out.glob.below hb0)).mono ?_
        rintro e W1 ⟨rfl, hb⟩
        have HF1 := Aside0.mk ((HF.out.step hb0).step hb)
        have HX1 := Aside0.mk (blk_below (blk_new wr (.cells #[.int .i64 2, .int .i64 1, .int .i64 3] 73)) hb)
        have HO1 := Aside0.mk (Kd.R_below (Kd.R_below HO.out hb0) hb)
        have HXL : Aside0 (w.heap.size ≤ wr.heap.size) := ⟨HF.out.below.size⟩
        clear hb hb0 hz0 hz1 hz2 HT HF HO
        generalize wr.heap.size = gx at *
        by_cases he : t2 = 0
        · subst he
          have H := H0.out
          rw [if_pos rfl] at H
          obtain ⟨wd, hW, H⟩ := Option.bind_eq_some_iff.1 H
          obtain ⟨mv, hmv⟩ : ∃ mv, Cal.moved 2 wd = mv := ⟨_, rfl⟩
          have HWd : Aside0 (∀ W, Calls Tryd.prog 53 #[.int .i64 t1] W fun e w' => e = .returned (.int .i64 wd) ∧ Drawn0 W w') := ⟨fun W => molad_Weekday.calls t1 wd W hW⟩
          have HM : Aside0 (∀ W, Calls Tryd.prog 29 #[.int .i64 2, .int .i64 wd] W fun e w' => e = .returned (.int .i64 mv) ∧ Drawn0 W w') := ⟨fun W => fast_Moved.calls 2 wd mv W (by rw [fast_Moved.f, hmv])⟩
          rw [hmv, if_neg (by decide)] at H
          have H1 := Aside0.mk H
          clear H hW hmv H0
          go_upto_region 10 with fail
          go_cut [7] (fun v7 wc => v7 = .int .i64 (wrap64 (t1 + mv)) ∧ Aside0 (Drawn0 W1 wc))
          case first =>
            go_region_held3 (fun V => Drawn0 W1 V ∧ V.cell? ⟨gx, 0, none⟩ = some (.int .i64 2)) (first | (have hz_ : Drawn0 W1 W1.drew := (Drawn0.refl W1).step 1; exact ⟨hz_, (blk_below HX1.out hz_.below |> fun h => blk_cell h 0)⟩) | (have hz_ := drawn_trans (And.left (by assumption)) hb; exact ⟨hz_, (blk_below HX1.out hz_.below |> fun h => blk_cell h 0)⟩)) (first | (go_at_call 53; refine (HWd.out _).mono ?_; rintro e w' ⟨rfl, hb⟩) | (go_at_call 29; refine (HM.out _).mono ?_; rintro e w' ⟨rfl, hb⟩))
            have HD := Aside0.mk (And.left (‹Drawn0 W1 _ ∧ _›))
            go_wp2_with fail
            go_meet
            case rel => exact ⟨by rw [← wrapEq64], HD⟩
          case rest =>
            obtain ⟨rfl, HD⟩ := hcut
            have HF2 := Aside0.mk (HF1.out.step HD.out.below)
            have HX2 := Aside0.mk (blk_below HX1.out HD.out.below)
            have HO2 := Aside0.mk (Kd.R_below HO1.out HD.out.below)
            clear HF1 HX1 HO1 HD HWd HM
            have hx0 : wc.cell? ⟨gx, 0, none⟩ = some (.int .i64 2) := blk_cell HX2.out 0
            go_wp2_with (first | ((with_reducible refine gate_builtin (b := .append) (xs := #[.tmp 51, .tmp 56]) rfl ?_); at_builtin; refine Kd.R_append k48 (w0 := w) w.heap.size rfl (.tmp 51) (.tmp 56) 38 48 (.agg #[(.int .i64 0), (.int .i64 0)]) 16 rfl Tryd.underlying38 infoEv rfl (by decide) (by omega) u4 (acc) (⟨2, wrap64 (t1 + mv)⟩ : S48) [.int .i64 2, .int .i64 (wrap64 (t1 + mv))] (fun _ => True) (fun _ => False) rfl rfl ?aP (fun _ hk => hk.elim) (fun _ _ => trivial) HO2.out HF2.out.below HF2.out.below.size ?aL ?_; (case aP => exact k48_mkM _ _ _ (⟨2, wrap64 (t1 + mv)⟩ : S48)); (case aL => first | omega | (simp; omega)); intro v1 W2 ho hb hg hat; have HO3 := Aside0.mk ho; have HF3 := Aside0.mk (FAt.grown HF2.out hb hg (Kd.R_base HO2.out) HGW.out (Kd.R_ne HO2.out HF2.out.arr (by decide))); have hx3 : W2.cell? ⟨gx, 0, none⟩ = some (.int .i64 2) := blk_cell (blk_grown HX2.out hg (Kd.R_ne HO2.out HX2.out (by decide))) 0; clear hx0; clear ho hb hg hat))
            exact ⟨⟨1, _, by omega, by simp; omega, rfl, H1, HO3, HF3⟩, by simp [intOf]⟩
        · have H := H0.out
          rw [if_neg he] at H
          have h' := Option.some.inj H
          simp only [Prod.mk.injEq] at h'
          obtain ⟨rfl, rfl⟩ := h'
          have he2 : (t2 != 0) = true := by simpa using he
          clear H H0 he HO1 HX1
          go_wp2_with fail
          go_ret2
          exact ⟨_, rfl, Kd.R_nil _ _ _ _ _, HF1.out.below⟩
      · have H := HG.out
        rw [show fastRows.drop 1 = (10, 4, 10) :: fastRows.drop 2 from rfl, fast_Of.go] at H
        obtain ⟨⟨t1, t2⟩, hT, H⟩ := Option.bind_eq_some_iff.1 H
        simp only at H
        clear HG
        have HT : Aside0 (∀ W, GlobT W → Calls Tryd.prog 52 #[.agg #[.int .i64 a0, .int .i64 4, .bool false, .int .i64 10]] W fun e w' => e = .returned (.tuple #[.int .i64 t1, .int .i64 t2]) ∧ Below W.heap.size W w') := ⟨fun W hW => heb_ToDay.calls 20 a0 4 false 10 t1 t2 W hW hT⟩
        have hz0 : wr.cell? ⟨w.heap.size, 3, none⟩ = some (.int .i64 10) := (blk_cell HF.out.arr 3).trans rfl
        have hz1 : wr.cell? ⟨w.heap.size, 4, none⟩ = some (.int .i64 4) := (blk_cell HF.out.arr 4).trans rfl
        have hz2 : wr.cell? ⟨w.heap.size, 5, none⟩ = some (.int .i64 10) := (blk_cell HF.out.arr 5).trans rfl
        have H0 := Aside0.mk H
        clear H hT
        go_wp2_with fail
        have hb0 := below_alloc (Below.refl wr.heap.size wr) (.cells #[.int .i64 10, .int .i64 4, .int .i64 10] 73)
        refine (HT.out _ (HF.out.glob.below hb0)).mono ?_
        rintro e W1 ⟨rfl, hb⟩
        have HF1 := Aside0.mk ((HF.out.step hb0).step hb)
        have HX1 := Aside0.mk (blk_below (blk_new wr (.cells #[.int .i64 10, .int .i64 4, .int .i64 10] 73)) hb)
        have HO1 := Aside0.mk (Kd.R_below (Kd.R_below HO.out hb0) hb)
        have HXL : Aside0 (w.heap.size ≤ wr.heap.size) := ⟨HF.out.below.size⟩
        clear hb hb0 hz0 hz1 hz2 HT HF HO
        generalize wr.heap.size = gx at *
        by_cases he : t2 = 0
        · subst he
          have H := H0.out
          rw [if_pos rfl] at H
          obtain ⟨wd, hW, H⟩ := Option.bind_eq_some_iff.1 H
          obtain ⟨mv, hmv⟩ : ∃ mv, Cal.moved 10 wd = mv := ⟨_, rfl⟩
          have HWd : Aside0 (∀ W, Calls Tryd.prog 53 #[.int .i64 t1] W fun e w' => e = .returned (.int .i64 wd) ∧ Drawn0 W w') := ⟨fun W => molad_Weekday.calls t1 wd W hW⟩
          have HM : Aside0 (∀ W, Calls Tryd.prog 29 #[.int .i64 10, .int .i64 wd] W fun e w' => e = .returned (.int .i64 mv) ∧ Drawn0 W w') := ⟨fun W => fast_Moved.calls 10 wd mv W (by rw [fast_Moved.f, hmv])⟩
          rw [hmv, if_neg (by decide)] at H
          have H1 := Aside0.mk H
          clear H hW hmv H0
          go_upto_region 10 with fail
          go_cut [7] (fun v7 wc => v7 = .int .i64 (wrap64 (t1 + mv)) ∧ Aside0 (Drawn0 W1 wc))
          case first =>
            go_region_held3 (fun V => Drawn0 W1 V ∧ V.cell? ⟨gx, 0, none⟩ = some (.int .i64 10)) (first | (have hz_ : Drawn0 W1 W1.drew := (Drawn0.refl W1).step 1; exact ⟨hz_, (blk_below HX1.out hz_.below |> fun h => blk_cell h 0)⟩) | (have hz_ := drawn_trans (And.left (by assumption)) hb; exact ⟨hz_, (blk_below HX1.out hz_.below |> fun h => blk_cell h 0)⟩)) (first | (go_at_call 53; refine (HWd.out _).mono ?_; rintro e w' ⟨rfl, hb⟩) | (go_at_call 29; refine (HM.out _).mono ?_; rintro e w' ⟨rfl, hb⟩))
            have HD := Aside0.mk (And.left (‹Drawn0 W1 _ ∧ _›))
            go_wp2_with fail
            go_meet
            case rel => exact ⟨by rw [← wrapEq64], HD⟩
          case rest =>
            obtain ⟨rfl, HD⟩ := hcut
            have HF2 := Aside0.mk (HF1.out.step HD.out.below)
            have HX2 := Aside0.mk (blk_below HX1.out HD.out.below)
            have HO2 := Aside0.mk (Kd.R_below HO1.out HD.out.below)
            clear HF1 HX1 HO1 HD HWd HM
            have hx0 : wc.cell? ⟨gx, 0, none⟩ = some (.int .i64 10) := blk_cell HX2.out 0
            go_wp2_with (first | ((with_reducible refine gate_builtin (b := .append) (xs := #[.tmp 51, .tmp 56]) rfl ?_); at_builtin; refine Kd.R_append k48 (w0 := w) w.heap.size rfl (.tmp 51) (.tmp 56) 38 48 (.agg #[(.int .i64 0), (.int .i64 0)]) 16 rfl Tryd.underlying38 infoEv rfl (by decide) (by omega) u4 (acc) (⟨10, wrap64 (t1 + mv)⟩ : S48) [.int .i64 10, .int .i64 (wrap64 (t1 + mv))] (fun _ => True) (fun _ => False) rfl rfl ?aP (fun _ hk => hk.elim) (fun _ _ => trivial) HO2.out HF2.out.below HF2.out.below.size ?aL ?_; (case aP => exact k48_mkM _ _ _ (⟨10, wrap64 (t1 + mv)⟩ : S48)); (case aL => first | omega | (simp; omega)); intro v1 W2 ho hb hg hat; have HO3 := Aside0.mk ho; have HF3 := Aside0.mk (FAt.grown HF2.out hb hg (Kd.R_base HO2.out) HGW.out (Kd.R_ne HO2.out HF2.out.arr (by decide))); have hx3 : W2.cell? ⟨gx, 0, none⟩ = some (.int .i64 10) := blk_cell (blk_grown HX2.out hg (Kd.R_ne HO2.out HX2.out (by decide))) 0; clear hx0; clear ho hb hg hat))
            exact ⟨⟨2, _, by omega, by simp; omega, rfl, H1, HO3, HF3⟩, by simp [intOf]⟩
        · have H := H0.out
          rw [if_neg he] at H
          have h' := Option.some.inj H
          simp only [Prod.mk.injEq] at h'
          obtain ⟨rfl, rfl⟩ := h'
          have he2 : (t2 != 0) = true := by simpa using he
          clear H H0 he HO1 HX1
          go_wp2_with fail
          go_ret2
          exact ⟨_, rfl, Kd.R_nil _ _ _ _ _, HF1.out.below⟩
      · have H := HG.out
        rw [show fastRows.drop 2 = (13, 6, 13) :: fastRows.drop 3 from rfl, fast_Of.go] at H
        obtain ⟨⟨t1, t2⟩, hT, H⟩ := Option.bind_eq_some_iff.1 H
        simp only at H
        clear HG
        have HT : Aside0 (∀ W, GlobT W → Calls Tryd.prog 52 #[.agg #[.int .i64 a0, .int .i64 6, .bool false, .int .i64 13]] W fun e w' => e = .returned (.tuple #[.int .i64 t1, .int .i64 t2]) ∧ Below W.heap.size W w') := ⟨fun W hW => heb_ToDay.calls 20 a0 6 false 13 t1 t2 W hW hT⟩
        have hz0 : wr.cell? ⟨w.heap.size, 6, none⟩ = some (.int .i64 13) := (blk_cell HF.out.arr 6).trans rfl
        have hz1 : wr.cell? ⟨w.heap.size, 7, none⟩ = some (.int .i64 6) := (blk_cell HF.out.arr 7).trans rfl
        have hz2 : wr.cell? ⟨w.heap.size, 8, none⟩ = some (.int .i64 13) := (blk_cell HF.out.arr 8).trans rfl
        have H0 := Aside0.mk H
        clear H hT
        go_wp2_with fail
        have hb0 := below_alloc (Below.refl wr.heap.size wr) (.cells #[.int .i64 13, .int .i64 6, .int .i64 13] 73)
        refine (HT.out _ (HF.out.glob.below hb0)).mono ?_
        rintro e W1 ⟨rfl, hb⟩
        have HF1 := Aside0.mk ((HF.out.step hb0).step hb)
        have HX1 := Aside0.mk (blk_below (blk_new wr (.cells #[.int .i64 13, .int .i64 6, .int .i64 13] 73)) hb)
        have HO1 := Aside0.mk (Kd.R_below (Kd.R_below HO.out hb0) hb)
        have HXL : Aside0 (w.heap.size ≤ wr.heap.size) := ⟨HF.out.below.size⟩
        clear hb hb0 hz0 hz1 hz2 HT HF HO
        generalize wr.heap.size = gx at *
        by_cases he : t2 = 0
        · subst he
          have H := H0.out
          rw [if_pos rfl] at H
          obtain ⟨wd, hW, H⟩ := Option.bind_eq_some_iff.1 H
          obtain ⟨mv, hmv⟩ : ∃ mv, Cal.moved 13 wd = mv := ⟨_, rfl⟩
          have HWd : Aside0 (∀ W, Calls Tryd.prog 53 #[.int .i64 t1] W fun e w' => e = .returned (.int .i64 wd) ∧ Drawn0 W w') := ⟨fun W => molad_Weekday.calls t1 wd W hW⟩
          have HM : Aside0 (∀ W, Calls Tryd.prog 29 #[.int .i64 13, .int .i64 wd] W fun e w' => e = .returned (.int .i64 mv) ∧ Drawn0 W w') := ⟨fun W => fast_Moved.calls 13 wd mv W (by rw [fast_Moved.f, hmv])⟩
          rw [hmv, if_neg (by decide)] at H
          have H1 := Aside0.mk H
          clear H hW hmv H0
          go_upto_region 10 with fail
          go_cut [7] (fun v7 wc => v7 = .int .i64 (wrap64 (t1 + mv)) ∧ Aside0 (Drawn0 W1 wc))
          case first =>
            go_region_held3 (fun V => Drawn0 W1 V ∧ V.cell? ⟨gx, 0, none⟩ = some (.int .i64 13)) (first | (have hz_ : Drawn0 W1 W1.drew := (Drawn0.refl W1).step 1; exact ⟨hz_, (blk_below HX1.out hz_.below |> fun h => blk_cell h 0)⟩) | (have hz_ := drawn_trans (And.left (by assumption)) hb; exact ⟨hz_, (blk_below HX1.out hz_.below |> fun h => blk_cell h 0)⟩)) (first | (go_at_call 53; refine (HWd.out _).mono ?_; rintro e w' ⟨rfl, hb⟩) | (go_at_call 29; refine (HM.out _).mono ?_; rintro e w' ⟨rfl, hb⟩))
            have HD := Aside0.mk (And.left (‹Drawn0 W1 _ ∧ _›))
            go_wp2_with fail
            go_meet
            case rel => exact ⟨by rw [← wrapEq64], HD⟩
          case rest =>
            obtain ⟨rfl, HD⟩ := hcut
            have HF2 := Aside0.mk (HF1.out.step HD.out.below)
            have HX2 := Aside0.mk (blk_below HX1.out HD.out.below)
            have HO2 := Aside0.mk (Kd.R_below HO1.out HD.out.below)
            clear HF1 HX1 HO1 HD HWd HM
            have hx0 : wc.cell? ⟨gx, 0, none⟩ = some (.int .i64 13) := blk_cell HX2.out 0
            go_wp2_with (first | ((with_reducible refine gate_builtin (b := .append) (xs := #[.tmp 51, .tmp 56]) rfl ?_); at_builtin; refine Kd.R_append k48 (w0 := w) w.heap.size rfl (.tmp 51) (.tmp 56) 38 48 (.agg #[(.int .i64 0), (.int .i64 0)]) 16 rfl Tryd.underlying38 infoEv rfl (by decide) (by omega) u4 (acc) (⟨13, wrap64 (t1 + mv)⟩ : S48) [.int .i64 13, .int .i64 (wrap64 (t1 + mv))] (fun _ => True) (fun _ => False) rfl rfl ?aP (fun _ hk => hk.elim) (fun _ _ => trivial) HO2.out HF2.out.below HF2.out.below.size ?aL ?_; (case aP => exact k48_mkM _ _ _ (⟨13, wrap64 (t1 + mv)⟩ : S48)); (case aL => first | omega | (simp; omega)); intro v1 W2 ho hb hg hat; have HO3 := Aside0.mk ho; have HF3 := Aside0.mk (FAt.grown HF2.out hb hg (Kd.R_base HO2.out) HGW.out (Kd.R_ne HO2.out HF2.out.arr (by decide))); have hx3 : W2.cell? ⟨gx, 0, none⟩ = some (.int .i64 13) := blk_cell (blk_grown HX2.out hg (Kd.R_ne HO2.out HX2.out (by decide))) 0; clear hx0; clear ho hb hg hat))
            exact ⟨⟨3, _, by omega, by simp; omega, rfl, H1, HO3, HF3⟩, by simp [intOf]⟩
        · have H := H0.out
          rw [if_neg he] at H
          have h' := Option.some.inj H
          simp only [Prod.mk.injEq] at h'
          obtain ⟨rfl, rfl⟩ := h'
          have he2 : (t2 != 0) = true := by simpa using he
          clear H H0 he HO1 HX1
          go_wp2_with fail
          go_ret2
          exact ⟨_, rfl, Kd.R_nil _ _ _ _ _, HF1.out.below⟩
      · have H := HG.out
        rw [show fastRows.drop 3 = (16, 7, 14) :: fastRows.drop 4 from rfl, fast_Of.go] at H
        obtain ⟨⟨t1, t2⟩, hT, H⟩ := Option.bind_eq_some_iff.1 H
        simp only at H
        clear HG
        have HT : Aside0 (∀ W, GlobT W → Calls Tryd.prog 52 #[.agg #[.int .i64 a0, .int .i64 7, .bool false, .int .i64 14]] W fun e w' => e = .returned (.tuple #[.int .i64 t1, .int .i64 t2]) ∧ Below W.heap.size W w') := ⟨fun W hW => heb_ToDay.calls 20 a0 7 false 14 t1 t2 W hW hT⟩
        have hz0 : wr.cell? ⟨w.heap.size, 9, none⟩ = some (.int .i64 16) := (blk_cell HF.out.arr 9).trans rfl
        have hz1 : wr.cell? ⟨w.heap.size, 10, none⟩ = some (.int .i64 7) := (blk_cell HF.out.arr 10).trans rfl
        have hz2 : wr.cell? ⟨w.heap.size, 11, none⟩ = some (.int .i64 14) := (blk_cell HF.out.arr 11).trans rfl
        have H0 := Aside0.mk H
        clear H hT
        go_wp2_with fail
        have hb0 := below_alloc (Below.refl wr.heap.size wr) (.cells #[.int .i64 16, .int .i64 7, .int .i64 14] 73)
        refine (HT.out _ (HF.out.glob.below hb0)).mono ?_
        rintro e W1 ⟨rfl, hb⟩
        have HF1 := Aside0.mk ((HF.out.step hb0).step hb)
        have HX1 := Aside0.mk (blk_below (blk_new wr (.cells #[.int .i64 16, .int .i64 7, .int .i64 14] 73)) hb)
        have HO1 := Aside0.mk (Kd.R_below (Kd.R_below HO.out hb0) hb)
        have HXL : Aside0 (w.heap.size ≤ wr.heap.size) := ⟨HF.out.below.size⟩
        clear hb hb0 hz0 hz1 hz2 HT HF HO
        generalize wr.heap.size = gx at *
        by_cases he : t2 = 0
        · subst he
          have H := H0.out
          rw [if_pos rfl] at H
          obtain ⟨wd, hW, H⟩ := Option.bind_eq_some_iff.1 H
          obtain ⟨mv, hmv⟩ : ∃ mv, Cal.moved 16 wd = mv := ⟨_, rfl⟩
          have HWd : Aside0 (∀ W, Calls Tryd.prog 53 #[.int .i64 t1] W fun e w' => e = .returned (.int .i64 wd) ∧ Drawn0 W w') := ⟨fun W => molad_Weekday.calls t1 wd W hW⟩
          have HM : Aside0 (∀ W, Calls Tryd.prog 29 #[.int .i64 16, .int .i64 wd] W fun e w' => e = .returned (.int .i64 mv) ∧ Drawn0 W w') := ⟨fun W => fast_Moved.calls 16 wd mv W (by rw [fast_Moved.f, hmv])⟩
          rw [hmv, if_neg (by decide)] at H
          have H1 := Aside0.mk H
          clear H hW hmv H0
          go_upto_region 10 with fail
          go_cut [7] (fun v7 wc => v7 = .int .i64 (wrap64 (t1 + mv)) ∧ Aside0 (Drawn0 W1 wc))
          case first =>
            go_region_held3 (fun V => Drawn0 W1 V ∧ V.cell? ⟨gx, 0, none⟩ = some (.int .i64 16)) (first | (have hz_ : Drawn0 W1 W1.drew := (Drawn0.refl W1).step 1; exact ⟨hz_, (blk_below HX1.out hz_.below |> fun h => blk_cell h 0)⟩) | (have hz_ := drawn_trans (And.left (by assumption)) hb; exact ⟨hz_, (blk_below HX1.out hz_.below |> fun h => blk_cell h 0)⟩)) (first | (go_at_call 53; refine (HWd.out _).mono ?_; rintro e w' ⟨rfl, hb⟩) | (go_at_call 29; refine (HM.out _).mono ?_; rintro e w' ⟨rfl, hb⟩))
            have HD := Aside0.mk (And.left (‹Drawn0 W1 _ ∧ _›))
            go_wp2_with fail
            go_meet
            case rel => exact ⟨by rw [← wrapEq64], HD⟩
          case rest =>
            obtain ⟨rfl, HD⟩ := hcut
            have HF2 := Aside0.mk (HF1.out.step HD.out.below)
            have HX2 := Aside0.mk (blk_below HX1.out HD.out.below)
            have HO2 := Aside0.mk (Kd.R_below HO1.out HD.out.below)
            clear HF1 HX1 HO1 HD HWd HM
            have hx0 : wc.cell? ⟨gx, 0, none⟩ = some (.int .i64 16) := blk_cell HX2.out 0
            go_wp2_with (first | ((with_reducible refine gate_builtin (b := .append) (xs := #[.tmp 51, .tmp 56]) rfl ?_); at_builtin; refine Kd.R_append k48 (w0 := w) w.heap.size rfl (.tmp 51) (.tmp 56) 38 48 (.agg #[(.int .i64 0), (.int .i64 0)]) 16 rfl Tryd.underlying38 infoEv rfl (by decide) (by omega) u4 (acc) (⟨16, wrap64 (t1 + mv)⟩ : S48) [.int .i64 16, .int .i64 (wrap64 (t1 + mv))] (fun _ => True) (fun _ => False) rfl rfl ?aP (fun _ hk => hk.elim) (fun _ _ => trivial) HO2.out HF2.out.below HF2.out.below.size ?aL ?_; (case aP => exact k48_mkM _ _ _ (⟨16, wrap64 (t1 + mv)⟩ : S48)); (case aL => first | omega | (simp; omega)); intro v1 W2 ho hb hg hat; have HO3 := Aside0.mk ho; have HF3 := Aside0.mk (FAt.grown HF2.out hb hg (Kd.R_base HO2.out) HGW.out (Kd.R_ne HO2.out HF2.out.arr (by decide))); have hx3 : W2.cell? ⟨gx, 0, none⟩ = some (.int .i64 16) := blk_cell (blk_grown HX2.out hg (Kd.R_ne HO2.out HX2.out (by decide))) 0; clear hx0; clear ho hb hg hat))
            exact ⟨⟨4, _, by omega, by simp; omega, rfl, H1, HO3, HF3⟩, by simp [intOf]⟩
        · have H := H0.out
          rw [if_neg he] at H
          have h' := Option.some.inj H
          simp only [Prod.mk.injEq] at h'
          obtain ⟨rfl, rfl⟩ := h'
          have he2 : (t2 != 0) = true := by simpa using he
          clear H H0 he HO1 HX1
          go_wp2_with fail
          go_ret2
          exact ⟨_, rfl, Kd.R_nil _ _ _ _ _, HF1.out.below⟩
      · have H := HG.out
        rw [show fastRows.drop 4 = (19, 7, 27) :: fastRows.drop 5 from rfl, fast_Of.go] at H
        obtain ⟨⟨t1, t2⟩, hT, H⟩ := Option.bind_eq_some_iff.1 H
        simp only at H
        clear HG
        have HT : Aside0 (∀ W, GlobT W → Calls Tryd.prog 52 #[.agg #[.int .i64 a0, .int .i64 7, .bool false, .int .i64 27]] W fun e w' => e = .returned (.tuple #[.int .i64 t1, .int .i64 t2]) ∧ Below W.heap.size W w') := ⟨fun W hW => heb_ToDay.calls 20 a0 7 false 27 t1 t2 W hW hT⟩
        have hz0 : wr.cell? ⟨w.heap.size, 12, none⟩ = some (.int .i64 19) := (blk_cell HF.out.arr 12).trans rfl
        have hz1 : wr.cell? ⟨w.heap.size, 13, none⟩ = some (.int .i64 7) := (blk_cell HF.out.arr 13).trans rfl
        have hz2 : wr.cell? ⟨w.heap.size, 14, none⟩ = some (.int .i64 27) := (blk_cell HF.out.arr 14).trans rfl
        have H0 := Aside0.mk H
        clear H hT
        go_wp2_with fail
        have hb0 := below_alloc (Below.refl wr.heap.size wr) (.cells #[.int .i64 19, .int .i64 7, .int .i64 27] 73)
        refine (HT.out _ (HF.out.glob.below hb0)).mono ?_
        rintro e W1 ⟨rfl, hb⟩
        have HF1 := Aside0.mk ((HF.out.step hb0).step hb)
        have HX1 := Aside0.mk (blk_below (blk_new wr (.cells #[.int .i64 19, .int .i64 7, .int .i64 27] 73)) hb)
        have HO1 := Aside0.mk (Kd.R_below (Kd.R_below HO.out hb0) hb)
        have HXL : Aside0 (w.heap.size ≤ wr.heap.size) := ⟨HF.out.below.size⟩
        clear hb hb0 hz0 hz1 hz2 HT HF HO
        generalize wr.heap.size = gx at *
        by_cases he : t2 = 0
        · subst he
          have H := H0.out
          rw [if_pos rfl] at H
          obtain ⟨wd, hW, H⟩ := Option.bind_eq_some_iff.1 H
          obtain ⟨mv, hmv⟩ : ∃ mv, Cal.moved 19 wd = mv := ⟨_, rfl⟩
          have HWd : Aside0 (∀ W, Calls Tryd.prog 53 #[.int .i64 t1] W fun e w' => e = .returned (.int .i64 wd) ∧ Drawn0 W w') := ⟨fun W => molad_Weekday.calls t1 wd W hW⟩
          have HM : Aside0 (∀ W, Calls Tryd.prog 29 #[.int .i64 19, .int .i64 wd] W fun e w' => e = .returned (.int .i64 mv) ∧ Drawn0 W w') := ⟨fun W => fast_Moved.calls 19 wd mv W (by rw [fast_Moved.f, hmv])⟩
          rw [hmv, if_neg (by decide)] at H
          have H1 := Aside0.mk H
          clear H hW hmv H0
          go_upto_region 10 with fail
          go_cut [7] (fun v7 wc => v7 = .int .i64 (wrap64 (t1 + mv)) ∧ Aside0 (Drawn0 W1 wc))
          case first =>
            go_region_held3 (fun V => Drawn0 W1 V ∧ V.cell? ⟨gx, 0, none⟩ = some (.int .i64 19)) (first | (have hz_ : Drawn0 W1 W1.drew := (Drawn0.refl W1).step 1; exact ⟨hz_, (blk_below HX1.out hz_.below |> fun h => blk_cell h 0)⟩) | (have hz_ := drawn_trans (And.left (by assumption)) hb; exact ⟨hz_, (blk_below HX1.out hz_.below |> fun h => blk_cell h 0)⟩)) (first | (go_at_call 53; refine (HWd.out _).mono ?_; rintro e w' ⟨rfl, hb⟩) | (go_at_call 29; refine (HM.out _).mono ?_; rintro e w' ⟨rfl, hb⟩))
            have HD := Aside0.mk (And.left (‹Drawn0 W1 _ ∧ _›))
            go_wp2_with fail
            go_meet
            case rel => exact ⟨by rw [← wrapEq64], HD⟩
          case rest =>
            obtain ⟨rfl, HD⟩ := hcut
            have HF2 := Aside0.mk (HF1.out.step HD.out.below)
            have HX2 := Aside0.mk (blk_below HX1.out HD.out.below)
            have HO2 := Aside0.mk (Kd.R_below HO1.out HD.out.below)
            clear HF1 HX1 HO1 HD HWd HM
            have hx0 : wc.cell? ⟨gx, 0, none⟩ = some (.int .i64 19) := blk_cell HX2.out 0
            go_wp2_with (first | ((with_reducible refine gate_builtin (b := .append) (xs := #[.tmp 51, .tmp 56]) rfl ?_); at_builtin; refine Kd.R_append k48 (w0 := w) w.heap.size rfl (.tmp 51) (.tmp 56) 38 48 (.agg #[(.int .i64 0), (.int .i64 0)]) 16 rfl Tryd.underlying38 infoEv rfl (by decide) (by omega) u4 (acc) (⟨19, wrap64 (t1 + mv)⟩ : S48) [.int .i64 19, .int .i64 (wrap64 (t1 + mv))] (fun _ => True) (fun _ => False) rfl rfl ?aP (fun _ hk => hk.elim) (fun _ _ => trivial) HO2.out HF2.out.below HF2.out.below.size ?aL ?_; (case aP => exact k48_mkM _ _ _ (⟨19, wrap64 (t1 + mv)⟩ : S48)); (case aL => first | omega | (simp; omega)); intro v1 W2 ho hb hg hat; have HO3 := Aside0.mk ho; have HF3 := Aside0.mk (FAt.grown HF2.out hb hg (Kd.R_base HO2.out) HGW.out (Kd.R_ne HO2.out HF2.out.arr (by decide))); have hx3 : W2.cell? ⟨gx, 0, none⟩ = some (.int .i64 19) := blk_cell (blk_grown HX2.out hg (Kd.R_ne HO2.out HX2.out (by decide))) 0; clear hx0; clear ho hb hg hat))
            exact ⟨⟨5, _, by omega, by simp; omega, rfl, H1, HO3, HF3⟩, by simp [intOf]⟩
        · have H := H0.out
          rw [if_neg he] at H
          have h' := Option.some.inj H
          simp only [Prod.mk.injEq] at h'
          obtain ⟨rfl, rfl⟩ := h'
          have he2 : (t2 != 0) = true := by simpa using he
          clear H H0 he HO1 HX1
          go_wp2_with fail
          go_ret2
          exact ⟨_, rfl, Kd.R_nil _ _ _ _ _, HF1.out.below⟩
      · have H := HG.out
        rw [show fastRows.drop 5 = (21, 8, 5) :: fastRows.drop 6 from rfl, fast_Of.go] at H
        obtain ⟨⟨t1, t2⟩, hT, H⟩ := Option.bind_eq_some_iff.1 H
        simp only at H
        clear HG
        have HT : Aside0 (∀ W, GlobT W → Calls Tryd.prog 52 #[.agg #[.int .i64 a0, .int .i64 8, .bool false, .int .i64 5]] W fun e w' => e = .returned (.tuple #[.int .i64 t1, .int .i64 t2]) ∧ Below W.heap.size W w') := ⟨fun W hW => heb_ToDay.calls 20 a0 8 false 5 t1 t2 W hW hT⟩
        have hz0 : wr.cell? ⟨w.heap.size, 15, none⟩ = some (.int .i64 21) := (blk_cell HF.out.arr 15).trans rfl
        have hz1 : wr.cell? ⟨w.heap.size, 16, none⟩ = some (.int .i64 8) := (blk_cell HF.out.arr 16).trans rfl
        have hz2 : wr.cell? ⟨w.heap.size, 17, none⟩ = some (.int .i64 5) := (blk_cell HF.out.arr 17).trans rfl
        have H0 := Aside0.mk H
        clear H hT
        go_wp2_with fail
        have hb0 := below_alloc (Below.refl wr.heap.size wr) (.cells #[.int .i64 21, .int .i64 8, .int .i64 5] 73)
        refine (HT.out _ (HF.out.glob.below hb0)).mono ?_
        rintro e W1 ⟨rfl, hb⟩
        have HF1 := Aside0.mk ((HF.out.step hb0).step hb)
        have HX1 := Aside0.mk (blk_below (blk_new wr (.cells #[.int .i64 21, .int .i64 8, .int .i64 5] 73)) hb)
        have HO1 := Aside0.mk (Kd.R_below (Kd.R_below HO.out hb0) hb)
        have HXL : Aside0 (w.heap.size ≤ wr.heap.size) := ⟨HF.out.below.size⟩
        clear hb hb0 hz0 hz1 hz2 HT HF HO
        generalize wr.heap.size = gx at *
        by_cases he : t2 = 0
        · subst he
          have H := H0.out
          rw [if_pos rfl] at H
          obtain ⟨wd, hW, H⟩ := Option.bind_eq_some_iff.1 H
          obtain ⟨mv, hmv⟩ : ∃ mv, Cal.moved 21 wd = mv := ⟨_, rfl⟩
          have HWd : Aside0 (∀ W, Calls Tryd.prog 53 #[.int .i64 t1] W fun e w' => e = .returned (.int .i64 wd) ∧ Drawn0 W w') := ⟨fun W => molad_Weekday.calls t1 wd W hW⟩
          have HM : Aside0 (∀ W, Calls Tryd.prog 29 #[.int .i64 21, .int .i64 wd] W fun e w' => e = .returned (.int .i64 mv) ∧ Drawn0 W w') := ⟨fun W => fast_Moved.calls 21 wd mv W (by rw [fast_Moved.f, hmv])⟩
          rw [hmv, if_pos True.intro] at H
          have H1 := Aside0.mk H
          clear H hW hmv H0
          go_upto_region 10 with fail
          go_cut [7] (fun v7 wc => v7 = .int .i64 (wrap64 (t1 + mv)) ∧ Aside0 (Drawn0 W1 wc))
          case first =>
            go_region_held3 (fun V => Drawn0 W1 V ∧ V.cell? ⟨gx, 0, none⟩ = some (.int .i64 21)) (first | (have hz_ : Drawn0 W1 W1.drew := (Drawn0.refl W1).step 1; exact ⟨hz_, (blk_below HX1.out hz_.below |> fun h => blk_cell h 0)⟩) | (have hz_ := drawn_trans (And.left (by assumption)) hb; exact ⟨hz_, (blk_below HX1.out hz_.below |> fun h => blk_cell h 0)⟩)) (first | (go_at_call 53; refine (HWd.out _).mono ?_; rintro e w' ⟨rfl, hb⟩) | (go_at_call 29; refine (HM.out _).mono ?_; rintro e w' ⟨rfl, hb⟩))
            have HD := Aside0.mk (And.left (‹Drawn0 W1 _ ∧ _›))
            go_wp2_with fail
            go_meet
            case rel => exact ⟨by rw [← wrapEq64], HD⟩
          case rest =>
            obtain ⟨rfl, HD⟩ := hcut
            have HF2 := Aside0.mk (HF1.out.step HD.out.below)
            have HX2 := Aside0.mk (blk_below HX1.out HD.out.below)
            have HO2 := Aside0.mk (Kd.R_below HO1.out HD.out.below)
            clear HF1 HX1 HO1 HD HWd HM
            have hx0 : wc.cell? ⟨gx, 0, none⟩ = some (.int .i64 21) := blk_cell HX2.out 0
            go_wp2_with (first | ((with_reducible refine gate_builtin (b := .append) (xs := #[.tmp 51, .tmp 56]) rfl ?_); at_builtin; refine Kd.R_append k48 (w0 := w) w.heap.size rfl (.tmp 51) (.tmp 56) 38 48 (.agg #[(.int .i64 0), (.int .i64 0)]) 16 rfl Tryd.underlying38 infoEv rfl (by decide) (by omega) u4 (acc) (⟨21, wrap64 (t1 + mv)⟩ : S48) [.int .i64 21, .int .i64 (wrap64 (t1 + mv))] (fun _ => True) (fun _ => False) rfl rfl ?aP (fun _ hk => hk.elim) (fun _ _ => trivial) HO2.out HF2.out.below HF2.out.below.size ?aL ?_; (case aP => exact k48_mkM _ _ _ (⟨21, wrap64 (t1 + mv)⟩ : S48)); (case aL => first | omega | (simp; omega)); intro v1 W2 ho hb hg hat; have HO3 := Aside0.mk ho; have HF3 := Aside0.mk (FAt.grown HF2.out hb hg (Kd.R_base HO2.out) HGW.out (Kd.R_ne HO2.out HF2.out.arr (by decide))); have hx3 : W2.cell? ⟨gx, 0, none⟩ = some (.int .i64 21) := blk_cell (blk_grown HX2.out hg (Kd.R_ne HO2.out HX2.out (by decide))) 0; clear hx0; clear ho hb hg hat) | ((with_reducible refine gate_builtin (b := .append) (xs := #[.tmp 61, .tmp 65]) rfl ?_); at_builtin; refine Kd.R_append k48 (w0 := w) w.heap.size rfl (.tmp 61) (.tmp 65) 38 48 (.agg #[(.int .i64 0), (.int .i64 0)]) 16 rfl Tryd.underlying38 infoEv rfl (by decide) (by omega) v1 (acc ++ [(⟨21, wrap64 (t1 + mv)⟩ : S48)]) (⟨20, wrap64 (wrap64 (t1 + mv) - 1)⟩ : S48) [.int .i64 20, .int .i64 (wrap64 (wrap64 (t1 + mv) - 1))] (fun _ => True) (fun _ => False) rfl rfl ?aP (fun _ hk => hk.elim) (fun _ _ => trivial) HO3.out HF3.out.below HF3.out.below.size ?aL ?_; (case aP => exact k48_mkM _ _ _ (⟨20, wrap64 (wrap64 (t1 + mv) - 1)⟩ : S48)); (case aL => first | omega | (simp; omega)); intro v5 W3 ho hb hg hat; have HO4 := Aside0.mk ho; have HF4 := Aside0.mk (FAt.grown HF3.out hb hg (Kd.R_base HO3.out) HGW.out (Kd.R_ne HO3.out HF3.out.arr (by decide))); clear ho hb hg hat))
            exact ⟨⟨6, _, by omega, by simp; omega, rfl, H1, HO4, HF4⟩, by simp [intOf]⟩
        · have H := H0.out
          rw [if_neg he] at H
          have h' := Option.some.inj H
          simp only [Prod.mk.injEq] at h'
          obtain ⟨rfl, rfl⟩ := h'
          have he2 : (t2 != 0) = true := by simpa using he
          clear H H0 he HO1 HX1
          go_wp2_with fail
          go_ret2
          exact ⟨_, rfl, Kd.R_nil _ _ _ _ _, HF1.out.below⟩
      · have H := HG.out
        rw [show fastRows.drop 6 = (24, 8, 28) :: fastRows.drop 7 from rfl, fast_Of.go] at H
        obtain ⟨⟨t1, t2⟩, hT, H⟩ := Option.bind_eq_some_iff.1 H
        simp only at H
        clear HG
        have HT : Aside0 (∀ W, GlobT W → Calls Tryd.prog 52 #[.agg #[.int .i64 a0, .int .i64 8, .bool false, .int .i64 28]] W fun e w' => e = .returned (.tuple #[.int .i64 t1, .int .i64 t2]) ∧ Below W.heap.size W w') := ⟨fun W hW => heb_ToDay.calls 20 a0 8 false 28 t1 t2 W hW hT⟩
        have hz0 : wr.cell? ⟨w.heap.size, 18, none⟩ = some (.int .i64 24) := (blk_cell HF.out.arr 18).trans rfl
        have hz1 : wr.cell? ⟨w.heap.size, 19, none⟩ = some (.int .i64 8) := (blk_cell HF.out.arr 19).trans rfl
        have hz2 : wr.cell? ⟨w.heap.size, 20, none⟩ = some (.int .i64 28) := (blk_cell HF.out.arr 20).trans rfl
        have H0 := Aside0.mk H
        clear H hT
        go_wp2_with fail
        have hb0 := below_alloc (Below.refl wr.heap.size wr) (.cells #[.int .i64 24, .int .i64 8, .int .i64 28] 73)
        refine (HT.out _ (HF.out.glob.below hb0)).mono ?_
        rintro e W1 ⟨rfl, hb⟩
        have HF1 := Aside0.mk ((HF.out.step hb0).step hb)
        have HX1 := Aside0.mk (blk_below (blk_new wr (.cells #[.int .i64 24, .int .i64 8, .int .i64 28] 73)) hb)
        have HO1 := Aside0.mk (Kd.R_below (Kd.R_below HO.out hb0) hb)
        have HXL : Aside0 (w.heap.size ≤ wr.heap.size) := ⟨HF.out.below.size⟩
        clear hb hb0 hz0 hz1 hz2 HT HF HO
        generalize wr.heap.size = gx at *
        by_cases he : t2 = 0
        · subst he
          have H := H0.out
          rw [if_pos rfl] at H
          obtain ⟨wd, hW, H⟩ := Option.bind_eq_some_iff.1 H
          obtain ⟨mv, hmv⟩ : ∃ mv, Cal.moved 24 wd = mv := ⟨_, rfl⟩
          have HWd : Aside0 (∀ W, Calls Tryd.prog 53 #[.int .i64 t1] W fun e w' => e = .returned (.int .i64 wd) ∧ Drawn0 W w') := ⟨fun W => molad_Weekday.calls t1 wd W hW⟩
          have HM : Aside0 (∀ W, Calls Tryd.prog 29 #[.int .i64 24, .int .i64 wd] W fun e w' => e = .returned (.int .i64 mv) ∧ Drawn0 W w') := ⟨fun W => fast_Moved.calls 24 wd mv W (by rw [fast_Moved.f, hmv])⟩
          rw [hmv, if_neg (by decide)] at H
          have H1 := Aside0.mk H
          clear H hW hmv H0
          go_upto_region 10 with fail
          go_cut [7] (fun v7 wc => v7 = .int .i64 (wrap64 (t1 + mv)) ∧ Aside0 (Drawn0 W1 wc))
          case first =>
            go_region_held3 (fun V => Drawn0 W1 V ∧ V.cell? ⟨gx, 0, none⟩ = some (.int .i64 24)) (first | (have hz_ : Drawn0 W1 W1.drew := (Drawn0.refl W1).step 1; exact ⟨hz_, (blk_below HX1.out hz_.below |> fun h => blk_cell h 0)⟩) | (have hz_ := drawn_trans (And.left (by assumption)) hb; exact ⟨hz_, (blk_below HX1.out hz_.below |> fun h => blk_cell h 0)⟩)) (first | (go_at_call 53; refine (HWd.out _).mono ?_; rintro e w' ⟨rfl, hb⟩) | (go_at_call 29; refine (HM.out _).mono ?_; rintro e w' ⟨rfl, hb⟩))
            have HD := Aside0.mk (And.left (‹Drawn0 W1 _ ∧ _›))
            go_wp2_with fail
            go_meet
            case rel => exact ⟨by rw [← wrapEq64], HD⟩
          case rest =>
            obtain ⟨rfl, HD⟩ := hcut
            have HF2 := Aside0.mk (HF1.out.step HD.out.below)
            have HX2 := Aside0.mk (blk_below HX1.out HD.out.below)
            have HO2 := Aside0.mk (Kd.R_below HO1.out HD.out.below)
            clear HF1 HX1 HO1 HD HWd HM
            have hx0 : wc.cell? ⟨gx, 0, none⟩ = some (.int .i64 24) := blk_cell HX2.out 0
            go_wp2_with (first | ((with_reducible refine gate_builtin (b := .append) (xs := #[.tmp 51, .tmp 56]) rfl ?_); at_builtin; refine Kd.R_append k48 (w0 := w) w.heap.size rfl (.tmp 51) (.tmp 56) 38 48 (.agg #[(.int .i64 0), (.int .i64 0)]) 16 rfl Tryd.underlying38 infoEv rfl (by decide) (by omega) u4 (acc) (⟨24, wrap64 (t1 + mv)⟩ : S48) [.int .i64 24, .int .i64 (wrap64 (t1 + mv))] (fun _ => True) (fun _ => False) rfl rfl ?aP (fun _ hk => hk.elim) (fun _ _ => trivial) HO2.out HF2.out.below HF2.out.below.size ?aL ?_; (case aP => exact k48_mkM _ _ _ (⟨24, wrap64 (t1 + mv)⟩ : S48)); (case aL => first | omega | (simp; omega)); intro v1 W2 ho hb hg hat; have HO3 := Aside0.mk ho; have HF3 := Aside0.mk (FAt.grown HF2.out hb hg (Kd.R_base HO2.out) HGW.out (Kd.R_ne HO2.out HF2.out.arr (by decide))); have hx3 : W2.cell? ⟨gx, 0, none⟩ = some (.int .i64 24) := blk_cell (blk_grown HX2.out hg (Kd.R_ne HO2.out HX2.out (by decide))) 0; clear hx0; clear ho hb hg hat))
            exact ⟨⟨7, _, by omega, by simp; omega, rfl, H1, HO3, HF3⟩, by simp [intOf]⟩
        · have H := H0.out
          rw [if_neg he] at H
          have h' := Option.some.inj H
          simp only [Prod.mk.injEq] at h'
          obtain ⟨rfl, rfl⟩ := h'
          have he2 : (t2 != 0) = true := by simpa using he
          clear H H0 he HO1 HX1
          go_wp2_with fail
          go_ret2
          exact ⟨_, rfl, Kd.R_nil _ _ _ _ _, HF1.out.below⟩
      · have H := HG.out
        rw [show fastRows.drop 7 = (26, 10, 17) :: fastRows.drop 8 from rfl, fast_Of.go] at H
        obtain ⟨⟨t1, t2⟩, hT, H⟩ := Option.bind_eq_some_iff.1 H
        simp only at H
        clear HG
        have HT : Aside0 (∀ W, GlobT W → Calls Tryd.prog 52 #[.agg #[.int .i64 a0, .int .i64 10, .bool false, .int .i64 17]] W fun e w' => e = .returned (.tuple #[.int .i64 t1, .int .i64 t2]) ∧ Below W.heap.size W w') := ⟨fun W hW => heb_ToDay.calls 20 a0 10 false 17 t1 t2 W hW hT⟩
        have hz0 : wr.cell? ⟨w.heap.size, 21, none⟩ = some (.int .i64 26) := (blk_cell HF.out.arr 21).trans rfl
        have hz1 : wr.cell? ⟨w.heap.size, 22, none⟩ = some (.int .i64 10) := (blk_cell HF.out.arr 22).trans rfl
        have hz2 : wr.cell? ⟨w.heap.size, 23, none⟩ = some (.int .i64 17) := (blk_cell HF.out.arr 23).trans rfl
        have H0 := Aside0.mk H
        clear H hT
        go_wp2_with fail
        have hb0 := below_alloc (Below.refl wr.heap.size wr) (.cells #[.int .i64 26, .int .i64 10, .int .i64 17] 73)
        refine (HT.out _ (HF.out.glob.below hb0)).mono ?_
        rintro e W1 ⟨rfl, hb⟩
        have HF1 := Aside0.mk ((HF.out.step hb0).step hb)
        have HX1 := Aside0.mk (blk_below (blk_new wr (.cells #[.int .i64 26, .int .i64 10, .int .i64 17] 73)) hb)
        have HO1 := Aside0.mk (Kd.R_below (Kd.R_below HO.out hb0) hb)
        have HXL : Aside0 (w.heap.size ≤ wr.heap.size) := ⟨HF.out.below.size⟩
        clear hb hb0 hz0 hz1 hz2 HT HF HO
        generalize wr.heap.size = gx at *
        by_cases he : t2 = 0
        · subst he
          have H := H0.out
          rw [if_pos rfl] at H
          obtain ⟨wd, hW, H⟩ := Option.bind_eq_some_iff.1 H
          obtain ⟨mv, hmv⟩ : ∃ mv, Cal.moved 26 wd = mv := ⟨_, rfl⟩
          have HWd : Aside0 (∀ W, Calls Tryd.prog 53 #[.int .i64 t1] W fun e w' => e = .returned (.int .i64 wd) ∧ Drawn0 W w') := ⟨fun W => molad_Weekday.calls t1 wd W hW⟩
          have HM : Aside0 (∀ W, Calls Tryd.prog 29 #[.int .i64 26, .int .i64 wd] W fun e w' => e = .returned (.int .i64 mv) ∧ Drawn0 W w') := ⟨fun W => fast_Moved.calls 26 wd mv W (by rw [fast_Moved.f, hmv])⟩
          rw [hmv, if_neg (by decide)] at H
          have H1 := Aside0.mk H
          clear H hW hmv H0
          go_upto_region 10 with fail
          go_cut [7] (fun v7 wc => v7 = .int .i64 (wrap64 (t1 + mv)) ∧ Aside0 (Drawn0 W1 wc))
          case first =>
            go_region_held3 (fun V => Drawn0 W1 V ∧ V.cell? ⟨gx, 0, none⟩ = some (.int .i64 26)) (first | (have hz_ : Drawn0 W1 W1.drew := (Drawn0.refl W1).step 1; exact ⟨hz_, (blk_below HX1.out hz_.below |> fun h => blk_cell h 0)⟩) | (have hz_ := drawn_trans (And.left (by assumption)) hb; exact ⟨hz_, (blk_below HX1.out hz_.below |> fun h => blk_cell h 0)⟩)) (first | (go_at_call 53; refine (HWd.out _).mono ?_; rintro e w' ⟨rfl, hb⟩) | (go_at_call 29; refine (HM.out _).mono ?_; rintro e w' ⟨rfl, hb⟩))
            have HD := Aside0.mk (And.left (‹Drawn0 W1 _ ∧ _›))
            go_wp2_with fail
            go_meet
            case rel => exact ⟨by rw [← wrapEq64], HD⟩
          case rest =>
            obtain ⟨rfl, HD⟩ := hcut
            have HF2 := Aside0.mk (HF1.out.step HD.out.below)
            have HX2 := Aside0.mk (blk_below HX1.out HD.out.below)
            have HO2 := Aside0.mk (Kd.R_below HO1.out HD.out.below)
            clear HF1 HX1 HO1 HD HWd HM
            have hx0 : wc.cell? ⟨gx, 0, none⟩ = some (.int .i64 26) := blk_cell HX2.out 0
            go_wp2_with (first | ((with_reducible refine gate_builtin (b := .append) (xs := #[.tmp 51, .tmp 56]) rfl ?_); at_builtin; refine Kd.R_append k48 (w0 := w) w.heap.size rfl (.tmp 51) (.tmp 56) 38 48 (.agg #[(.int .i64 0), (.int .i64 0)]) 16 rfl Tryd.underlying38 infoEv rfl (by decide) (by omega) u4 (acc) (⟨26, wrap64 (t1 + mv)⟩ : S48) [.int .i64 26, .int .i64 (wrap64 (t1 + mv))] (fun _ => True) (fun _ => False) rfl rfl ?aP (fun _ hk => hk.elim) (fun _ _ => trivial) HO2.out HF2.out.below HF2.out.below.size ?aL ?_; (case aP => exact k48_mkM _ _ _ (⟨26, wrap64 (t1 + mv)⟩ : S48)); (case aL => first | omega | (simp; omega)); intro v1 W2 ho hb hg hat; have HO3 := Aside0.mk ho; have HF3 := Aside0.mk (FAt.grown HF2.out hb hg (Kd.R_base HO2.out) HGW.out (Kd.R_ne HO2.out HF2.out.arr (by decide))); have hx3 : W2.cell? ⟨gx, 0, none⟩ = some (.int .i64 26) := blk_cell (blk_grown HX2.out hg (Kd.R_ne HO2.out HX2.out (by decide))) 0; clear hx0; clear ho hb hg hat))
            exact ⟨⟨8, _, by omega, by simp; omega, rfl, H1, HO3, HF3⟩, by simp [intOf]⟩
        · have H := H0.out
          rw [if_neg he] at H
          have h' := Option.some.inj H
          simp only [Prod.mk.injEq] at h'
          obtain ⟨rfl, rfl⟩ := h'
          have he2 : (t2 != 0) = true := by simpa using he
          clear H H0 he HO1 HX1
          go_wp2_with fail
          go_ret2
          exact ⟨_, rfl, Kd.R_nil _ _ _ _ _, HF1.out.below⟩
      · have H := HG.out
        rw [show fastRows.drop 8 = (27, 11, 9) :: fastRows.drop 9 from rfl, fast_Of.go] at H
        obtain ⟨⟨t1, t2⟩, hT, H⟩ := Option.bind_eq_some_iff.1 H
        simp only at H
        clear HG
        have HT : Aside0 (∀ W, GlobT W → Calls Tryd.prog 52 #[.agg #[.int .i64 a0, .int .i64 11, .bool false, .int .i64 9]] W fun e w' => e = .returned (.tuple #[.int .i64 t1, .int .i64 t2]) ∧ Below W.heap.size W w') := ⟨fun W hW => heb_ToDay.calls 20 a0 11 false 9 t1 t2 W hW hT⟩
        have hz0 : wr.cell? ⟨w.heap.size, 24, none⟩ = some (.int .i64 27) := (blk_cell HF.out.arr 24).trans rfl
        have hz1 : wr.cell? ⟨w.heap.size, 25, none⟩ = some (.int .i64 11) := (blk_cell HF.out.arr 25).trans rfl
        have hz2 : wr.cell? ⟨w.heap.size, 26, none⟩ = some (.int .i64 9) := (blk_cell HF.out.arr 26).trans rfl
        have H0 := Aside0.mk H
        clear H hT
        go_wp2_with fail
        have hb0 := below_alloc (Below.refl wr.heap.size wr) (.cells #[.int .i64 27, .int .i64 11, .int .i64 9] 73)
        refine (HT.out _ (HF.out.glob.below hb0)).mono ?_
        rintro e W1 ⟨rfl, hb⟩
        have HF1 := Aside0.mk ((HF.out.step hb0).step hb)
        have HX1 := Aside0.mk (blk_below (blk_new wr (.cells #[.int .i64 27, .int .i64 11, .int .i64 9] 73)) hb)
        have HO1 := Aside0.mk (Kd.R_below (Kd.R_below HO.out hb0) hb)
        have HXL : Aside0 (w.heap.size ≤ wr.heap.size) := ⟨HF.out.below.size⟩
        clear hb hb0 hz0 hz1 hz2 HT HF HO
        generalize wr.heap.size = gx at *
        by_cases he : t2 = 0
        · subst he
          have H := H0.out
          rw [if_pos rfl] at H
          obtain ⟨wd, hW, H⟩ := Option.bind_eq_some_iff.1 H
          obtain ⟨mv, hmv⟩ : ∃ mv, Cal.moved 27 wd = mv := ⟨_, rfl⟩
          have HWd : Aside0 (∀ W, Calls Tryd.prog 53 #[.int .i64 t1] W fun e w' => e = .returned (.int .i64 wd) ∧ Drawn0 W w') := ⟨fun W => molad_Weekday.calls t1 wd W hW⟩
          have HM : Aside0 (∀ W, Calls Tryd.prog 29 #[.int .i64 27, .int .i64 wd] W fun e w' => e = .returned (.int .i64 mv) ∧ Drawn0 W w') := ⟨fun W => fast_Moved.calls 27 wd mv W (by rw [fast_Moved.f, hmv])⟩
          rw [hmv, if_neg (by decide)] at H
          have H1 := Aside0.mk H
          clear H hW hmv H0
          go_upto_region 10 with fail
          go_cut [7] (fun v7 wc => v7 = .int .i64 (wrap64 (t1 + mv)) ∧ Aside0 (Drawn0 W1 wc))
          case first =>
            go_region_held3 (fun V => Drawn0 W1 V ∧ V.cell? ⟨gx, 0, none⟩ = some (.int .i64 27)) (first | (have hz_ : Drawn0 W1 W1.drew := (Drawn0.refl W1).step 1; exact ⟨hz_, (blk_below HX1.out hz_.below |> fun h => blk_cell h 0)⟩) | (have hz_ := drawn_trans (And.left (by assumption)) hb; exact ⟨hz_, (blk_below HX1.out hz_.below |> fun h => blk_cell h 0)⟩)) (first | (go_at_call 53; refine (HWd.out _).mono ?_; rintro e w' ⟨rfl, hb⟩) | (go_at_call 29; refine (HM.out _).mono ?_; rintro e w' ⟨rfl, hb⟩))
            have HD := Aside0.mk (And.left (‹Drawn0 W1 _ ∧ _›))
            go_wp2_with fail
            go_meet
            case rel => exact ⟨by rw [← wrapEq64], HD⟩
          case rest =>
            obtain ⟨rfl, HD⟩ := hcut
            have HF2 := Aside0.mk (HF1.out.step HD.out.below)
            have HX2 := Aside0.mk (blk_below HX1.out HD.out.below)
            have HO2 := Aside0.mk (Kd.R_below HO1.out HD.out.below)
            clear HF1 HX1 HO1 HD HWd HM
            have hx0 : wc.cell? ⟨gx, 0, none⟩ = some (.int .i64 27) := blk_cell HX2.out 0
            go_wp2_with (first | ((with_reducible refine gate_builtin (b := .append) (xs := #[.tmp 51, .tmp 56]) rfl ?_); at_builtin; refine Kd.R_append k48 (w0 := w) w.heap.size rfl (.tmp 51) (.tmp 56) 38 48 (.agg #[(.int .i64 0), (.int .i64 0)]) 16 rfl Tryd.underlying38 infoEv rfl (by decide) (by omega) u4 (acc) (⟨27, wrap64 (t1 + mv)⟩ : S48) [.int .i64 27, .int .i64 (wrap64 (t1 + mv))] (fun _ => True) (fun _ => False) rfl rfl ?aP (fun _ hk => hk.elim) (fun _ _ => trivial) HO2.out HF2.out.below HF2.out.below.size ?aL ?_; (case aP => exact k48_mkM _ _ _ (⟨27, wrap64 (t1 + mv)⟩ : S48)); (case aL => first | omega | (simp; omega)); intro v1 W2 ho hb hg hat; have HO3 := Aside0.mk ho; have HF3 := Aside0.mk (FAt.grown HF2.out hb hg (Kd.R_base HO2.out) HGW.out (Kd.R_ne HO2.out HF2.out.arr (by decide))); have hx3 : W2.cell? ⟨gx, 0, none⟩ = some (.int .i64 27) := blk_cell (blk_grown HX2.out hg (Kd.R_ne HO2.out HX2.out (by decide))) 0; clear hx0; clear ho hb hg hat))
            exact ⟨⟨9, _, by omega, by simp; omega, rfl, H1, HO3, HF3⟩, by simp [intOf]⟩
        · have H := H0.out
          rw [if_neg he] at H
          have h' := Option.some.inj H
          simp only [Prod.mk.injEq] at h'
          obtain ⟨rfl, rfl⟩ := h'
          have he2 : (t2 != 0) = true := by simpa using he
          clear H H0 he HO1 HX1
          go_wp2_with fail
          go_ret2
          exact ⟨_, rfl, Kd.R_nil _ _ _ _ _, HF1.out.below⟩
      · have H := HG.out
        rw [show fastRows.drop 9 = [] from rfl, fast_Of.go] at H
        obtain ⟨s, hs, H⟩ := Option.bind_eq_some_iff.1 H
        have h' := Option.some.inj H
        simp only [Prod.mk.injEq] at h'
        obtain ⟨rfl, rfl⟩ := h'
        obtain ⟨A, c, hv, hc, hC⟩ := Kd.R_reads HO.out
        subst hv
        have HS := Aside0.mk (feast_Sort.calls A c acc s wr hC hc hs)
        clear H HG hs hC
        go_wp2_with fail
        refine HS.out.mono ?_
        rintro e W1 ⟨v0, rfl, hR, hb⟩
        have HR := Aside0.mk (Kd.R_lower hR HF.out.below.size)
        have HB := Aside0.mk (HF.out.below.trans (hb.mono HF.out.below.size))
        clear hR hb
        go_wp2_with fail
        go_ret2
        exact ⟨_, rfl, HR.out, HB.out⟩

def almanackerref19_before.f (a0_0 : Int) (a0_1 : Int) (a1_0 : Int) (a1_1 : Int) : Option (Bool) := if a0_1 < a1_1 then (some true) else (if a0_1 = a1_1 then (some (decide (a0_0 < a1_0))) else (some false))
set_option maxHeartbeats 8000000 in
set_option maxRecDepth 100000 in
theorem almanackerref19_before.calls (a0_0 : Int) (a0_1 : Int) (a1_0 : Int) (a1_1 : Int) (r : Bool) (w : World) (h : almanackerref19_before.f a0_0 a0_1 a1_0 a1_1 = some r) :
    Calls Tryd.prog 69 #[.agg #[.int .i64 a0_0, .int .i64 a0_1], .agg #[.int .i64 a1_0, .int .i64 a1_1]] w fun e w' => e = .returned (.bool r) ∧ Below w.heap.size w w' := by
  have hu48 := Tryd.underlying48
  have HB := Aside0.mk (Below.refl w.heap.size w)
  have H : (if a0_1 < a1_1 then (some true) else (if a0_1 = a1_1 then (some (decide (a0_0 < a1_0))) else (some false))) = some r := h
  clear h
  by_cases c3 : a0_1 < a1_1
  · rw [if_pos c3] at H
    have c3b0 : decide (a0_1 < a1_1) = true := decide_eq_true c3
    clear c3
    obtain rfl := Option.some.inj H
    go_enter Tryd.func69, Tryd.ntmps69
    go_wp2_with (first | ((with_reducible refine gate_dst (N := 2) rfl ?_); refine box_event ?hg (N := 2) ?hd (cs := #[.int .i64 a0_0, .int .i64 a0_1]) (t := 48) ?hr ?_; (case hd => rfl); (case hg => rfl); (case hr => first | (go_simp; done) | (go_simp; rfl)); intro gb190 hg w4 hbox hb; have n0_ := Aside0.mk (below_step (by repeat (first | (with_reducible first | exact HB.out | apply below_alloc | apply pw_below_drewN | apply below_drew1) | exact HB.out)) hb); have n1_ := Aside0.mk (hbox); have n2_ := Aside0.mk ((by rw [hg]; exact (below_size (by repeat (first | (with_reducible first | exact HB.out | apply below_alloc | apply pw_below_drewN | apply below_drew1) | exact HB.out))) : w.heap.size ≤ gb190)); have n3_ := Aside0.mk ((by rw [hg]; exact (below_size (by repeat (first | (with_reducible first | exact HB.out | apply below_alloc | apply pw_below_drewN | apply below_drew1) | exact HB.out))) : w.heap.size ≤ gb190)); clear HB; have HB := n0_; have BK190 := n1_; have GW190 := n2_; have GE190 := n3_; clear n0_ n1_ n2_ n3_; clear hb hbox hg) | ((with_reducible refine gate_dst (N := 3) rfl ?_); refine box_event ?hg (N := 3) ?hd (cs := #[.int .i64 a1_0, .int .i64 a1_1]) (t := 48) ?hr ?_; (case hd => rfl); (case hg => rfl); (case hr => first | (go_simp; done) | (go_simp; rfl)); intro gb191 hg w5 hbox hb; have n0_ := Aside0.mk (blk_below (g := gb190) (o := .cells #[.int .i64 a0_0, .int .i64 a0_1] 48 (0, 0)) (by (with_reducible repeat (first | refine blk_drewN ?_ _ | refine blk_drew ?_ | refine blk_alloc ?_ _)); exact BK190.out) hb); have n1_ := Aside0.mk (below_step (by repeat (first | (with_reducible first | exact HB.out | apply below_alloc | apply pw_below_drewN | apply below_drew1 | refine below_set ?_ GE190.out) | exact HB.out)) hb); have n2_ := Aside0.mk (hbox); have n3_ := Aside0.mk ((by rw [hg]; exact (below_size (by repeat (first | (with_reducible first | exact HB.out | apply below_alloc | apply pw_below_drewN | apply below_drew1 | refine below_set ?_ GE190.out) | exact HB.out))) : w.heap.size ≤ gb191)); have n4_ := Aside0.mk ((by rw [hg]; exact (below_size (by repeat (first | (with_reducible first | exact HB.out | apply below_alloc | apply pw_below_drewN | apply below_drew1 | refine below_set ?_ GE190.out) | exact HB.out))) : w.heap.size ≤ gb191)); have n5_ := Aside0.mk ((by rw [hg]; exact Nat.ne_of_lt (blk_lt (g := gb190) (o := .cells #[.int .i64 a0_0, .int .i64 a0_1] 48 (0, 0)) (by (with_reducible repeat (first | refine blk_drewN ?_ _ | refine blk_drew ?_ | refine blk_alloc ?_ _)); exact BK190.out)) : gb190 ≠ gb191)); have n6_ := Aside0.mk ((by rw [hg]; exact Nat.ne_of_gt (blk_lt (g := gb190) (o := .cells #[.int .i64 a0_0, .int .i64 a0_1] 48 (0, 0)) (by (with_reducible repeat (first | refine blk_drewN ?_ _ | refine blk_drew ?_ | refine blk_alloc ?_ _)); exact BK190.out)) : gb191 ≠ gb190)); clear BK190; clear HB; have BK190 := n0_; have HB := n1_; have BK191 := n2_; have GW191 := n3_; have GE191 := n4_; have NB190_191 := n5_; have NB191_190 := n6_; clear n0_ n1_ n2_ n3_ n4_ n5_ n6_; clear hb hbox hg; have hnb6 := NB190_191.out; have hnc6 := NB191_190.out; have hcz7_0 : w5.cell? ⟨gb190, 0, none⟩ = some (.int .i64 a0_0) := (blk_cell BK190.out 0).trans rfl; have hcz7_1 : w5.cell? ⟨gb190, 1, none⟩ = some (.int .i64 a0_1) := (blk_cell BK190.out 1).trans rfl; have hfz7_0 := blk_frozen BK190.out 0; have hfz7_1 := blk_frozen BK190.out 1; have hcz8_0 : w5.cell? ⟨gb191, 0, none⟩ = some (.int .i64 a1_0) := (blk_cell BK191.out 0).trans rfl; have hcz8_1 : w5.cell? ⟨gb191, 1, none⟩ = some (.int .i64 a1_1) := (blk_cell BK191.out 1).trans rfl; have hfz8_0 := blk_frozen BK191.out 0; have hfz8_1 := blk_frozen BK191.out 1))
    go_ret
    exact ⟨by first | rfl | (simp [errW_none, errW_some] <;> rfl) | (simp [*, errW_none, errW_some] <;> rfl), by repeat (first | (with_reducible first | exact HB.out | apply below_alloc | apply pw_below_drewN | apply below_drew1 | refine below_set ?_ GE190.out | refine below_set ?_ GE191.out) | exact HB.out)⟩
  · rw [if_neg c3] at H
    have c3b0 : decide (a0_1 < a1_1) = false := decide_eq_false c3
    clear c3
    by_cases c9 : a0_1 = a1_1
    · rw [if_pos c9] at H
      have c9b0 : (a0_1 == a1_1) = true := beq_iff_eq.mpr c9
      have c9b1 : (a0_1 != a1_1) = false := bne_eq_false_iff_eq.mpr c9
      clear c9
      obtain rfl := Option.some.inj H
      go_enter Tryd.func69, Tryd.ntmps69
      go_wp2_with (first | ((with_reducible refine gate_dst (N := 2) rfl ?_); refine box_event ?hg (N := 2) ?hd (cs := #[.int .i64 a0_0, .int .i64 a0_1]) (t := 48) ?hr ?_; (case hd => rfl); (case hg => rfl); (case hr => first | (go_simp; done) | (go_simp; rfl)); intro gb190 hg w10 hbox hb; have n0_ := Aside0.mk (below_step (by repeat (first | (with_reducible first | exact HB.out | apply below_alloc | apply pw_below_drewN | apply below_drew1) | exact HB.out)) hb); have n1_ := Aside0.mk (hbox); have n2_ := Aside0.mk ((by rw [hg]; exact (below_size (by repeat (first | (with_reducible first | exact HB.out | apply below_alloc | apply pw_below_drewN | apply below_drew1) | exact HB.out))) : w.heap.size ≤ gb190)); have n3_ := Aside0.mk ((by rw [hg]; exact (below_size (by repeat (first | (with_reducible first | exact HB.out | apply below_alloc | apply pw_below_drewN | apply below_drew1) | exact HB.out))) : w.heap.size ≤ gb190)); clear HB; have HB := n0_; have BK190 := n1_; have GW190 := n2_; have GE190 := n3_; clear n0_ n1_ n2_ n3_; clear hb hbox hg) | ((with_reducible refine gate_dst (N := 3) rfl ?_); refine box_event ?hg (N := 3) ?hd (cs := #[.int .i64 a1_0, .int .i64 a1_1]) (t := 48) ?hr ?_; (case hd => rfl); (case hg => rfl); (case hr => first | (go_simp; done) | (go_simp; rfl)); intro gb191 hg w11 hbox hb; have n0_ := Aside0.mk (blk_below (g := gb190) (o := .cells #[.int .i64 a0_0, .int .i64 a0_1] 48 (0, 0)) (by (with_reducible repeat (first | refine blk_drewN ?_ _ | refine blk_drew ?_ | refine blk_alloc ?_ _)); exact BK190.out) hb); have n1_ := Aside0.mk (below_step (by repeat (first | (with_reducible first | exact HB.out | apply below_alloc | apply pw_below_drewN | apply below_drew1 | refine below_set ?_ GE190.out) | exact HB.out)) hb); have n2_ := Aside0.mk (hbox); have n3_ := Aside0.mk ((by rw [hg]; exact (below_size (by repeat (first | (with_reducible first | exact HB.out | apply below_alloc | apply pw_below_drewN | apply below_drew1 | refine below_set ?_ GE190.out) | exact HB.out))) : w.heap.size ≤ gb191)); have n4_ := Aside0.mk ((by rw [hg]; exact (below_size (by repeat (first | (with_reducible first | exact HB.out | apply below_alloc | apply pw_below_drewN | apply below_drew1 | refine below_set ?_ GE190.out) | exact HB.out))) : w.heap.size ≤ gb191)); have n5_ := Aside0.mk ((by rw [hg]; exact Nat.ne_of_lt (blk_lt (g := gb190) (o := .cells #[.int .i64 a0_0, .int .i64 a0_1] 48 (0, 0)) (by (with_reducible repeat (first | refine blk_drewN ?_ _ | refine blk_drew ?_ | refine blk_alloc ?_ _)); exact BK190.out)) : gb190 ≠ gb191)); have n6_ := Aside0.mk ((by rw [hg]; exact Nat.ne_of_gt (blk_lt (g := gb190) (o := .cells #[.int .i64 a0_0, .int .i64 a0_1] 48 (0, 0)) (by (with_reducible repeat (first | refine blk_drewN ?_ _ | refine blk_drew ?_ | refine blk_alloc ?_ _)); exact BK190.out)) : gb191 ≠ gb190)); clear BK190; clear HB; have BK190 := n0_; have HB := n1_; have BK191 := n2_; have GW191 := n3_; have GE191 := n4_; have NB190_191 := n5_; have NB191_190 := n6_; clear n0_ n1_ n2_ n3_ n4_ n5_ n6_; clear hb hbox hg; have hnb12 := NB190_191.out; have hnc12 := NB191_190.out; have hcz13_0 : w11.cell? ⟨gb190, 0, none⟩ = some (.int .i64 a0_0) := (blk_cell BK190.out 0).trans rfl; have hcz13_1 : w11.cell? ⟨gb190, 1, none⟩ = some (.int .i64 a0_1) := (blk_cell BK190.out 1).trans rfl; have hfz13_0 := blk_frozen BK190.out 0; have hfz13_1 := blk_frozen BK190.out 1; have hcz14_0 : w11.cell? ⟨gb191, 0, none⟩ = some (.int .i64 a1_0) := (blk_cell BK191.out 0).trans rfl; have hcz14_1 : w11.cell? ⟨gb191, 1, none⟩ = some (.int .i64 a1_1) := (blk_cell BK191.out 1).trans rfl; have hfz14_0 := blk_frozen BK191.out 0; have hfz14_1 := blk_frozen BK191.out 1))
      go_ret
      exact ⟨by first | rfl | (simp [errW_none, errW_some] <;> rfl) | (simp [*, errW_none, errW_some] <;> rfl), by repeat (first | (with_reducible first | exact HB.out | apply below_alloc | apply pw_below_drewN | apply below_drew1 | refine below_set ?_ GE190.out | refine below_set ?_ GE191.out) | exact HB.out)⟩
    · rw [if_neg c9] at H
      have c9b0 : (a0_1 == a1_1) = false := beq_eq_false_iff_ne.mpr c9
      have c9b1 : (a0_1 != a1_1) = true := bne_iff_ne.mpr c9
      obtain rfl := Option.some.inj H
      go_enter Tryd.func69, Tryd.ntmps69
      go_wp2_with (first | ((with_reducible refine gate_dst (N := 2) rfl ?_); refine box_event ?hg (N := 2) ?hd (cs := #[.int .i64 a0_0, .int .i64 a0_1]) (t := 48) ?hr ?_; (case hd => rfl); (case hg => rfl); (case hr => first | (go_simp; done) | (go_simp; rfl)); intro gb190 hg w15 hbox hb; have n0_ := Aside0.mk (below_step (by repeat (first | (with_reducible first | exact HB.out | apply below_alloc | apply pw_below_drewN | apply below_drew1) | exact HB.out)) hb); have n1_ := Aside0.mk (hbox); have n2_ := Aside0.mk ((by rw [hg]; exact (below_size (by repeat (first | (with_reducible first | exact HB.out | apply below_alloc | apply pw_below_drewN | apply below_drew1) | exact HB.out))) : w.heap.size ≤ gb190)); have n3_ := Aside0.mk ((by rw [hg]; exact (below_size (by repeat (first | (with_reducible first | exact HB.out | apply below_alloc | apply pw_below_drewN | apply below_drew1) | exact HB.out))) : w.heap.size ≤ gb190)); clear HB; have HB := n0_; have BK190 := n1_; have GW190 := n2_; have GE190 := n3_; clear n0_ n1_ n2_ n3_; clear hb hbox hg) | ((with_reducible refine gate_dst (N := 3) rfl ?_); refine box_event ?hg (N := 3) ?hd (cs := #[.int .i64 a1_0, .int .i64 a1_1]) (t := 48) ?hr ?_; (case hd => rfl); (case hg => rfl); (case hr => first | (go_simp; done) | (go_simp; rfl)); intro gb191 hg w16 hbox hb; have n0_ := Aside0.mk (blk_below (g := gb190) (o := .cells #[.int .i64 a0_0, .int .i64 a0_1] 48 (0, 0)) (by (with_reducible repeat (first | refine blk_drewN ?_ _ | refine blk_drew ?_ | refine blk_alloc ?_ _)); exact BK190.out) hb); have n1_ := Aside0.mk (below_step (by repeat (first | (with_reducible first | exact HB.out | apply below_alloc | apply pw_below_drewN | apply below_drew1 | refine below_set ?_ GE190.out) | exact HB.out)) hb); have n2_ := Aside0.mk (hbox); have n3_ := Aside0.mk ((by rw [hg]; exact (below_size (by repeat (first | (with_reducible first | exact HB.out | apply below_alloc | apply pw_below_drewN | apply below_drew1 | refine below_set ?_ GE190.out) | exact HB.out))) : w.heap.size ≤ gb191)); have n4_ := Aside0.mk ((by rw [hg]; exact (below_size (by repeat (first | (with_reducible first | exact HB.out | apply below_alloc | apply pw_below_drewN | apply below_drew1 | refine below_set ?_ GE190.out) | exact HB.out))) : w.heap.size ≤ gb191)); have n5_ := Aside0.mk ((by rw [hg]; exact Nat.ne_of_lt (blk_lt (g := gb190) (o := .cells #[.int .i64 a0_0, .int .i64 a0_1] 48 (0, 0)) (by (with_reducible repeat (first | refine blk_drewN ?_ _ | refine blk_drew ?_ | refine blk_alloc ?_ _)); exact BK190.out)) : gb190 ≠ gb191)); have n6_ := Aside0.mk ((by rw [hg]; exact Nat.ne_of_gt (blk_lt (g := gb190) (o := .cells #[.int .i64 a0_0, .int .i64 a0_1] 48 (0, 0)) (by (with_reducible repeat (first | refine blk_drewN ?_ _ | refine blk_drew ?_ | refine blk_alloc ?_ _)); exact BK190.out)) : gb191 ≠ gb190)); clear BK190; clear HB; have BK190 := n0_; have HB := n1_; have BK191 := n2_; have GW191 := n3_; have GE191 := n4_; have NB190_191 := n5_; have NB191_190 := n6_; clear n0_ n1_ n2_ n3_ n4_ n5_ n6_; clear hb hbox hg; have hnb17 := NB190_191.out; have hnc17 := NB191_190.out; have hcz18_0 : w16.cell? ⟨gb190, 0, none⟩ = some (.int .i64 a0_0) := (blk_cell BK190.out 0).trans rfl; have hcz18_1 : w16.cell? ⟨gb190, 1, none⟩ = some (.int .i64 a0_1) := (blk_cell BK190.out 1).trans rfl; have hfz18_0 := blk_frozen BK190.out 0; have hfz18_1 := blk_frozen BK190.out 1; have hcz19_0 : w16.cell? ⟨gb191, 0, none⟩ = some (.int .i64 a1_0) := (blk_cell BK191.out 0).trans rfl; have hcz19_1 : w16.cell? ⟨gb191, 1, none⟩ = some (.int .i64 a1_1) := (blk_cell BK191.out 1).trans rfl; have hfz19_0 := blk_frozen BK191.out 0; have hfz19_1 := blk_frozen BK191.out 1))
      go_ret
      exact ⟨by first | rfl | (simp [errW_none, errW_some] <;> rfl) | (simp [*, errW_none, errW_some] <;> rfl), by repeat (first | (with_reducible first | exact HB.out | apply below_alloc | apply pw_below_drewN | apply below_drew1 | refine below_set ?_ GE190.out | refine below_set ?_ GE191.out) | exact HB.out)⟩

end Go.Proofs.YtflpddhoiafhcaaDoor.G
end

section
-- Written by wip/hprint.py of this repo (holes typed by hand, all else by a program) over the seat YtflpddhoiafhcaaDoor.
namespace Go.Proofs.YtflpddhoiafhcaaDoor.G
open Go.Proofs.YtflpddhoiafhcaaDoor.H
open Go.RowKit Go.Proofs.YtflpddhoiafhcaaDoorW.PrintWords Go.Proofs.YtflpddhoiafhcaaDoorW.PrintLast Go.Proofs.YtflpddhoiafhcaaDoorW.PrintMore
attribute [local go_sem] max2_int min2_int max_two min_two max_three min_three max_four min_four   -- for this text's walks alone
set_option linter.unusedVariables false
set_option linter.unusedSimpArgs false

theorem eqA23 (d : Nat) (w : World) (x0 y0 : Int) (x1 y1 : Bool) :
    (Op.equalIn (d + 2) 23 (.agg #[.int .i64 x0, .bool x1]) (.agg #[.int .i64 y0, .bool y1])).run Tryd.prog w = .ok (x0 == y0 && (x1 == y1)) w := by
  refine eqA_of Tryd.underlying23 (by kernel_rfl) ?_
  refine eqf_cons (by rfl) (by go_simp; rfl) (by go_simp; rfl) (by go_simp) ?_
  exact eqf_last (by rfl) (by go_simp; rfl) (by go_simp; rfl) (by go_simp)
end Go.Proofs.YtflpddhoiafhcaaDoor.G
end

section
-- Written by wip/hprint.py of this repo (holes typed by hand, all else by a program) over the seat YtflpddhoiafhcaaDoor.
namespace Go.Proofs.YtflpddhoiafhcaaDoor.G
open Go.Proofs.YtflpddhoiafhcaaDoor.H
open Go.RowKit Go.Proofs.YtflpddhoiafhcaaDoorW.PrintWords Go.Proofs.YtflpddhoiafhcaaDoorW.PrintLast Go.Proofs.YtflpddhoiafhcaaDoorW.PrintMore
attribute [local go_sem] max2_int min2_int max_two min_two max_three min_three max_four min_four   -- for this text's walks alone
set_option linter.unusedVariables false
set_option linter.unusedSimpArgs false

attribute [local go_sem high] eqA23
def almanackerref07_Right.f (a0 : Int) : Option (Bool) := if a0 ≥ 1 then (some (decide (a0 ≤ 9999))) else (some false)
set_option maxHeartbeats 8000000 in
set_option maxRecDepth 100000 in
theorem almanackerref07_Right.calls (a0 : Int) (r : Bool) (w : World) (h : almanackerref07_Right.f a0 = some r) :
    Calls Tryd.prog 54 #[.int .i64 a0] w fun e w' => e = .returned (.bool r) ∧ Drawn0 w w' := by
  have H : (if a0 ≥ 1 then (some (decide (a0 ≤ 9999))) else (some false)) = some r := h
  clear h
  by_cases c2 : a0 ≥ 1
  · rw [if_pos c2] at H
    have c2b0 : decide (1 ≤ a0) = true := decide_eq_true c2
    clear c2
    obtain rfl := Option.some.inj H
    go_enter Tryd.func54, Tryd.ntmps54
    go_wp2
    go_ret
    exact ⟨by first | rfl | (simp; done) | (simp [*]; done), by repeat (first | exact Drawn0.refl _ | apply Drawn0.step)⟩
  · rw [if_neg c2] at H
    have c2b0 : decide (1 ≤ a0) = false := decide_eq_false c2
    clear c2
    obtain rfl := Option.some.inj H
    go_enter Tryd.func54, Tryd.ntmps54
    go_wp2
    go_ret
    exact ⟨by first | rfl | (simp; done) | (simp [*]; done), by repeat (first | exact Drawn0.refl _ | apply Drawn0.step)⟩

mutual
def almanackerref20_Moved.j0 : Nat → Int → Int → Bool → Option (Int)
  | 0, _, _, _ => none
  | k + 1, x1, x5, x6 => if x6 = true then (if x1 = 6 then (some 1) else (some 0)) else (if x5 = 13 then (almanackerref20_Moved.j1 k x1 x5 (x5 == 13)) else (almanackerref20_Moved.j1 k x1 x5 (x5 == 16)))
def almanackerref20_Moved.j1 : Nat → Int → Int → Bool → Option (Int)
  | 0, _, _, _ => none
  | k + 1, x1, x5, x12 => if x12 = true then (if x1 = 6 then (some (-2)) else (some 0)) else (if x5 = 19 then (if x1 = 5 then (some (-1)) else (if x1 = 0 then (some 1) else (some 0))) else (if x5 = 21 then (if x1 = 5 then (some (-1)) else (if x1 = 6 then (some (-2)) else (if x1 = 1 then (some 1) else (some 0)))) else (some 0)))
end
def almanackerref20_Moved.f (k : Nat) (a0 : Int) (a1 : Int) : Option (Int) := if a0 = 2 then (almanackerref20_Moved.j0 k a1 a0 (a0 == 2)) else (if a0 = 26 then (almanackerref20_Moved.j0 k a1 a0 (a0 == 26)) else (almanackerref20_Moved.j0 k a1 a0 (a0 == 27)))
set_option maxHeartbeats 8000000 in
set_option maxRecDepth 100000 in
theorem almanackerref20_Moved.calls (k : Nat) (a0 : Int) (a1 : Int) (r : Int) (w : World) (h : almanackerref20_Moved.f k a0 a1 = some r) :
    Calls Tryd.prog 30 #[.int .i64 a0, .int .i64 a1] w fun e w' => e = .returned (.int .i64 r) ∧ Drawn0 w w' := by
  have H : (if a0 = 2 then (almanackerref20_Moved.j0 k a1 a0 (a0 == 2)) else (if a0 = 26 then (almanackerref20_Moved.j0 k a1 a0 (a0 == 26)) else (almanackerref20_Moved.j0 k a1 a0 (a0 == 27)))) = some r := h
  clear h
  have HC3 := Aside0.mk H
  clear H
  go_enter Tryd.func30, Tryd.ntmps30
  go_upto_if 6 with (fail)
  go_cut [6] (fun v6 wc => ∃ (kq : Nat) (x6_2 : Bool), v6 = .bool x6_2 ∧ Aside0 (almanackerref20_Moved.j0 kq a1 a0 x6_2 = some r) ∧ Aside0 (kq ≤ k) ∧ Drawn0 w wc)
  case first =>
    have H := HC3.out
    clear HC3
    by_cases c4 : a0 = 2
    · rw [if_pos c4] at H
      have c4b0 : (a0 == 2) = true := beq_iff_eq.mpr c4
      have c4b1 : (a0 != 2) = false := bne_eq_false_iff_eq.mpr c4
      clear c4
      (first | rw [c4b0] | (simp only [i64_w, i32_w]; rw [c4b0]) | skip)
      have H' := Aside0.mk H
      clear H
      go_wp2
      go_meet
      case rel => exact ⟨_, ((a0 == 2)), (by first | rfl | (simp; done) | (simp [*]; done)), H', ⟨by first | omega | exact Nat.le_refl _⟩, by repeat (first | exact Drawn0.refl _ | apply Drawn0.step)⟩
    · rw [if_neg c4] at H
      have c4b0 : (a0 == 2) = false := beq_eq_false_iff_ne.mpr c4
      have c4b1 : (a0 != 2) = true := bne_iff_ne.mpr c4
      (first | rw [c4b0] | (simp only [i64_w, i32_w]; rw [c4b0]) | skip)
      by_cases c5 : a0 = 26
      · rw [if_pos c5] at H
        have c5b0 : (a0 == 26) = true := beq_iff_eq.mpr c5
        have c5b1 : (a0 != 26) = false := bne_eq_false_iff_eq.mpr c5
        clear c5
        have H' := Aside0.mk H
        clear H
        go_wp2
        go_meet
        case rel => exact ⟨_, ((a0 == 26)), (by first | rfl | (simp; done) | (simp [*]; done)), H', ⟨by first | omega | exact Nat.le_refl _⟩, by repeat (first | exact Drawn0.refl _ | apply Drawn0.step)⟩
      · rw [if_neg c5] at H
        have c5b0 : (a0 == 26) = false := beq_eq_false_iff_ne.mpr c5
        have c5b1 : (a0 != 26) = true := bne_iff_ne.mpr c5
        have H' := Aside0.mk H
        clear H
        go_wp2
        go_meet
        case rel => exact ⟨_, ((a0 == 27)), (by first | rfl | (simp; done) | (simp [*]; done)), H', ⟨by first | omega | exact Nat.le_refl _⟩, by repeat (first | exact Drawn0.refl _ | apply Drawn0.step)⟩
  case rest =>
    clear HC3
    try clear p2
    try clear c3
    try clear c4
    try clear c4b0
    try clear c4b1
    try clear c5
    try clear c5b0
    try clear c5b1
    obtain ⟨kq, x6_2, rfl, HA, HJ2, ⟨mc2, rfl⟩⟩ := hcut
    cases kq with
    | zero => exact absurd HA.out (by simp [almanackerref20_Moved.j0])
    | succ kj2 =>
      have H := HA.out
      clear HA
      simp only [almanackerref20_Moved.j0] at H
      by_cases c6 : x6_2 = true
      · subst c6
        have H1 : (if a1 = 6 then (some 1) else (some 0)) = some r := by rw [if_pos rfl] at H; exact H
        clear H
        have H := H1
        clear H1
        by_cases c7 : a1 = 6
        · rw [if_pos c7] at H
          have c7b0 : (a1 == 6) = true := beq_iff_eq.mpr c7
          have c7b1 : (a1 != 6) = false := bne_eq_false_iff_eq.mpr c7
          clear c7
          obtain rfl := Option.some.inj H
          go_wp2
          go_ret
          exact ⟨by first | rfl | (simp; done) | (simp [*]; done), by repeat (first | exact Drawn0.refl _ | apply Drawn0.step)⟩
        · rw [if_neg c7] at H
          have c7b0 : (a1 == 6) = false := beq_eq_false_iff_ne.mpr c7
          have c7b1 : (a1 != 6) = true := bne_iff_ne.mpr c7
          obtain rfl := Option.some.inj H
          go_wp2
          go_ret
          exact ⟨by first | rfl | (simp; done) | (simp [*]; done), by repeat (first | exact Drawn0.refl _ | apply Drawn0.step)⟩
      · replace c6 := Bool.eq_false_iff.mpr c6
        subst c6
        have H1 : (if a0 = 13 then (almanackerref20_Moved.j1 kj2 a1 a0 (a0 == 13)) else (almanackerref20_Moved.j1 kj2 a1 a0 (a0 == 16))) = some r := by rw [if_neg (show ¬ (false = true) by decide)] at H; exact H
        clear H
        have H := H1
        clear H1
        have HC8 := Aside0.mk H
        clear H
        go_upto_if 12 with (fail)
        go_cut [12] (fun v12 wc => ∃ (kq : Nat) (x12_7 : Bool), v12 = .bool x12_7 ∧ Aside0 (almanackerref20_Moved.j1 kq a1 a0 x12_7 = some r) ∧ Aside0 (kq ≤ kj2) ∧ Drawn0 w wc)
        case first =>
          have H := HC8.out
          clear HC8
          by_cases c9 : a0 = 13
          · rw [if_pos c9] at H
            have c9b0 : (a0 == 13) = true := beq_iff_eq.mpr c9
            have c9b1 : (a0 != 13) = false := bne_eq_false_iff_eq.mpr c9
            clear c9
            (first | rw [c9b0] | (simp only [i64_w, i32_w]; rw [c9b0]) | skip)
            have H' := Aside0.mk H
            clear H
            go_wp2
            go_meet
            case rel => exact ⟨_, ((a0 == 13)), (by first | rfl | (simp; done) | (simp [*]; done)), H', ⟨by have := HJ2.out; first | omega | exact Nat.le_refl _⟩, by repeat (first | exact Drawn0.refl _ | apply Drawn0.step)⟩
          · rw [if_neg c9] at H
            have c9b0 : (a0 == 13) = false := beq_eq_false_iff_ne.mpr c9
            have c9b1 : (a0 != 13) = true := bne_iff_ne.mpr c9
            (first | rw [c9b0] | (simp only [i64_w, i32_w]; rw [c9b0]) | skip)
            have H' := Aside0.mk H
            clear H
            go_wp2
            go_meet
            case rel => exact ⟨_, ((a0 == 16)), (by first | rfl | (simp; done) | (simp [*]; done)), H', ⟨by have := HJ2.out; first | omega | exact Nat.le_refl _⟩, by repeat (first | exact Drawn0.refl _ | apply Drawn0.step)⟩
        case rest =>
          clear HC8
          try clear c2
          try clear p2
          try clear c3
          try clear c4
          try clear c4b0
          try clear c4b1
          try clear c5
          try clear c5b0
          try clear c5b1
          try clear c6
          try clear c7
          try clear c7b0
          try clear c7b1
          try clear c9
          try clear c9b0
          try clear c9b1
          try clear p2
          obtain ⟨kq, x12_7, rfl, HA, HJ7, ⟨mc7, rfl⟩⟩ := hcut
          cases kq with
          | zero => exact absurd HA.out (by simp [almanackerref20_Moved.j1])
          | succ kj7 =>
            have H := HA.out
            clear HA
            simp only [almanackerref20_Moved.j1] at H
            by_cases c10 : x12_7 = true
            · subst c10
              have H1 : (if a1 = 6 then (some (-2)) else (some 0)) = some r := by rw [if_pos rfl] at H; exact H
              clear H
              have H := H1
              clear H1
              by_cases c11 : a1 = 6
              · rw [if_pos c11] at H
                have c11b0 : (a1 == 6) = true := beq_iff_eq.mpr c11
                have c11b1 : (a1 != 6) = false := bne_eq_false_iff_eq.mpr c11
                clear c11
                obtain rfl := Option.some.inj H
                go_wp2
                go_ret
                exact ⟨by first | rfl | (simp; done) | (simp [*]; done), by repeat (first | exact Drawn0.refl _ | apply Drawn0.step)⟩
              · rw [if_neg c11] at H
                have c11b0 : (a1 == 6) = false := beq_eq_false_iff_ne.mpr c11
                have c11b1 : (a1 != 6) = true := bne_iff_ne.mpr c11
                obtain rfl := Option.some.inj H
                go_wp2
                go_ret
                exact ⟨by first | rfl | (simp; done) | (simp [*]; done), by repeat (first | exact Drawn0.refl _ | apply Drawn0.step)⟩
            · replace c10 := Bool.eq_false_iff.mpr c10
              subst c10
              have H1 : (if a0 = 19 then (if a1 = 5 then (some (-1)) else (if a1 = 0 then (some 1) else (some 0))) else (if a0 = 21 then (if a1 = 5 then (some (-1)) else (if a1 = 6 then (some (-2)) else (if a1 = 1 then (some 1) else (some 0)))) else (some 0))) = some r := by rw [if_neg (show ¬ (false = true) by decide)] at H; exact H
              clear H
              have H := H1
              clear H1
              by_cases c12 : a0 = 19
              · rw [if_pos c12] at H
                have c12b0 : (a0 == 19) = true := beq_iff_eq.mpr c12
                have c12b1 : (a0 != 19) = false := bne_eq_false_iff_eq.mpr c12
                clear c12
                by_cases c13 : a1 = 5
                · rw [if_pos c13] at H
                  have c13b0 : (a1 == 5) = true := beq_iff_eq.mpr c13
                  have c13b1 : (a1 != 5) = false := bne_eq_false_iff_eq.mpr c13
                  clear c13
                  obtain rfl := Option.some.inj H
                  go_wp2
                  go_ret
                  exact ⟨by first | rfl | (simp; done) | (simp [*]; done), by repeat (first | exact Drawn0.refl _ | apply Drawn0.step)⟩
                · rw [if_neg c13] at H
                  have c13b0 : (a1 == 5) = false := beq_eq_false_iff_ne.mpr c13
                  have c13b1 : (a1 != 5) = true := bne_iff_ne.mpr c13
                  by_cases c14 : a1 = 0
                  · rw [if_pos c14] at H
                    have c14b0 : (a1 == 0) = true := beq_iff_eq.mpr c14
                    have c14b1 : (a1 != 0) = false := bne_eq_false_iff_eq.mpr c14
                    clear c14
                    obtain rfl := Option.some.inj H
                    go_wp2
                    go_ret
                    exact ⟨by first | rfl | (simp; done) | (simp [*]; done), by repeat (first | exact Drawn0.refl _ | apply Drawn0.step)⟩
                  · rw [if_neg c14] at H
                    have c14b0 : (a1 == 0) = false := beq_eq_false_iff_ne.mpr c14
                    have c14b1 : (a1 != 0) = true := bne_iff_ne.mpr c14
                    obtain rfl := Option.some.inj H
                    go_wp2
                    go_ret
                    exact ⟨by first | rfl | (simp; done) | (simp [*]; done), by repeat (first | exact Drawn0.refl _ | apply Drawn0.step)⟩
              · rw [if_neg c12] at H
                have c12b0 : (a0 == 19) = false := beq_eq_false_iff_ne.mpr c12
                have c12b1 : (a0 != 19) = true := bne_iff_ne.mpr c12
                by_cases c15 : a0 = 21
                · rw [if_pos c15] at H
                  have c15b0 : (a0 == 21) = true := beq_iff_eq.mpr c15
                  have c15b1 : (a0 != 21) = false := bne_eq_false_iff_eq.mpr c15
                  clear c15
                  by_cases c16 : a1 = 5
                  · rw [if_pos c16] at H
                    have c16b0 : (a1 == 5) = true := beq_iff_eq.mpr c16
                    have c16b1 : (a1 != 5) = false := bne_eq_false_iff_eq.mpr c16
                    clear c16
                    obtain rfl := Option.some.inj H
                    go_wp2
                    go_ret
                    exact ⟨by first | rfl | (simp; done) | (simp [*]; done), by repeat (first | exact Drawn0.refl _ | apply Drawn0.step)⟩
                  · rw [if_neg c16] at H
                    have c16b0 : (a1 == 5) = false := beq_eq_false_iff_ne.mpr c16
                    have c16b1 : (a1 != 5) = true := bne_iff_ne.mpr c16
                    by_cases c17 : a1 = 6
                    · rw [if_pos c17] at H
                      have c17b0 : (a1 == 6) = true := beq_iff_eq.mpr c17
                      have c17b1 : (a1 != 6) = false := bne_eq_false_iff_eq.mpr c17
                      clear c17
                      obtain rfl := Option.some.inj H
                      go_wp2
                      go_ret
                      exact ⟨by first | rfl | (simp; done) | (simp [*]; done), by repeat (first | exact Drawn0.refl _ | apply Drawn0.step)⟩
                    · rw [if_neg c17] at H
                      have c17b0 : (a1 == 6) = false := beq_eq_false_iff_ne.mpr c17
                      have c17b1 : (a1 != 6) = true := bne_iff_ne.mpr c17
                      by_cases c18 : a1 = 1
                      · rw [if_pos c18] at H
                        have c18b0 : (a1 == 1) = true := beq_iff_eq.mpr c18
                        have c18b1 : (a1 != 1) = false := bne_eq_false_iff_eq.mpr c18
                        clear c18
                        obtain rfl := Option.some.inj H
                        go_wp2
                        go_ret
                        exact ⟨by first | rfl | (simp; done) | (simp [*]; done), by repeat (first | exact Drawn0.refl _ | apply Drawn0.step)⟩
                      · rw [if_neg c18] at H
                        have c18b0 : (a1 == 1) = false := beq_eq_false_iff_ne.mpr c18
                        have c18b1 : (a1 != 1) = true := bne_iff_ne.mpr c18
                        obtain rfl := Option.some.inj H
                        go_wp2
                        go_ret
                        exact ⟨by first | rfl | (simp; done) | (simp [*]; done), by repeat (first | exact Drawn0.refl _ | apply Drawn0.step)⟩
                · rw [if_neg c15] at H
                  have c15b0 : (a0 == 21) = false := beq_eq_false_iff_ne.mpr c15
                  have c15b1 : (a0 != 21) = true := bne_iff_ne.mpr c15
                  obtain rfl := Option.some.inj H
                  go_wp2
                  go_ret
                  exact ⟨by first | rfl | (simp; done) | (simp [*]; done), by repeat (first | exact Drawn0.refl _ | apply Drawn0.step)⟩

def almanackerref01_Left.f (a0 : Int) (a1 : Int) : Option (Int) := if a1 = 0 then (none) else (if (Int.tmod a0 a1) < 0 then (some (wrap64 ((Int.tmod a0 a1) + a1))) else (some (Int.tmod a0 a1)))
set_option maxHeartbeats 8000000 in
set_option maxRecDepth 100000 in
theorem almanackerref01_Left.calls (a0 : Int) (a1 : Int) (r : Int) (w : World) (h : almanackerref01_Left.f a0 a1 = some r) :
    Calls Tryd.prog 56 #[.int .i64 a0, .int .i64 a1] w fun e w' => e = .returned (.int .i64 r) ∧ Drawn0 w w' := by
  have H : (if a1 = 0 then (none) else (if (Int.tmod a0 a1) < 0 then (some (wrap64 ((Int.tmod a0 a1) + a1))) else (some (Int.tmod a0 a1)))) = some r := h
  clear h
  by_cases c3 : a1 = 0
  · rw [if_pos c3] at H
    exact absurd H (by simp)
  · rw [if_neg c3] at H
    have c3b0 : (a1 == 0) = false := beq_eq_false_iff_ne.mpr c3
    have c3b1 : (a1 != 0) = true := bne_iff_ne.mpr c3
    by_cases c4 : (Int.tmod a0 a1) < 0
    · rw [if_pos c4] at H
      have c4b0 : decide ((Int.tmod a0 a1) < 0) = true := decide_eq_true c4
      clear c4
      obtain rfl := Option.some.inj H
      go_enter Tryd.func56, Tryd.ntmps56
      go_wp2
      go_ret
      exact ⟨by first | rfl | (simp; done) | (simp [*]; done), by repeat (first | exact Drawn0.refl _ | apply Drawn0.step)⟩
    · rw [if_neg c4] at H
      have c4b0 : decide ((Int.tmod a0 a1) < 0) = false := decide_eq_false c4
      clear c4
      obtain rfl := Option.some.inj H
      go_enter Tryd.func56, Tryd.ntmps56
      go_wp2
      go_ret
      exact ⟨by first | rfl | (simp; done) | (simp [*]; done), by repeat (first | exact Drawn0.refl _ | apply Drawn0.step)⟩

def almanackerref04_Weekday.f (a0 : Int) : Option (Int) := (almanackerref01_Left.f a0 7).bind fun t235 => (some t235)
set_option maxHeartbeats 8000000 in
set_option maxRecDepth 100000 in
theorem almanackerref04_Weekday.calls (a0 : Int) (r : Int) (w : World) (h : almanackerref04_Weekday.f a0 = some r) :
    Calls Tryd.prog 32 #[.int .i64 a0] w fun e w' => e = .returned (.int .i64 r) ∧ Drawn0 w w' := by
  have H : ((almanackerref01_Left.f a0 7).bind fun t235 => (some t235)) = some r := h
  clear h
  replace H := Option.bind_eq_some_iff.mp H
  obtain ⟨t235, A20, H⟩ := H
  replace H : (some t235) = some r := H
  have A2 := Aside0.mk A20
  clear A20
  obtain rfl := Option.some.inj H
  go_enter Tryd.func32, Tryd.ntmps32
  go_wp2_with (first | ((with_reducible refine gate_callee (f := 56) rfl ?_); refine goesL_ (some 4) rfl rfl Tryd.func56 (by kernel_rfl) rfl #[.int .i64 a0, .int .i64 7] rfl (by (try simp only [List.map_toArray, List.map_cons, List.map_nil]); first | done | rfl | (simp only [List.length_drop, List.length_take]; rfl)) ?_; (with_reducible refine (almanackerref01_Left.calls a0 7 t235 _ A2.out).mono ?_); rintro e w' ⟨rfl, ⟨nd, rfl⟩⟩; refine ⟨_, rfl, ?_⟩))
  go_ret
  exact ⟨by first | rfl | (simp; done) | (simp [*]; done), by repeat (first | exact Drawn0.refl _ | apply Drawn0.step)⟩

def almanackerref09_codes.l0 : Nat → Bool → List (S23) → Int → Option ((List (S23)))
  | 0, _, _, _ => none
  | k + 1, x0, x3, x4 => if x4 ≤ 12 then (if x3.length < 8796093022208 then ((some (x3 ++ [(⟨x4, false⟩ : S23)] : List (S23))).bind fun y236 => (if x4 = 5 then (if x0 = true then (if y236.length < 8796093022208 then (almanackerref09_codes.l0 k x0 (y236 ++ [(⟨5, true⟩ : S23)]) (wrap64 (x4 + 1))) else (none)) else (almanackerref09_codes.l0 k x0 y236 (wrap64 (x4 + 1)))) else (almanackerref09_codes.l0 k x0 y236 (wrap64 (x4 + 1))))) else (none)) else (some x3)
def almanackerref09_codes.f (k : Nat) (a0 : Bool) : Option ((List (S23))) := almanackerref09_codes.l0 k a0 ([] : List (S23)) 1
set_option maxHeartbeats 8000000 in
set_option maxRecDepth 100000 in
theorem almanackerref09_codes.calls (k : Nat) (a0 : Bool) (r : List (S23)) (w : World) (h : almanackerref09_codes.f k a0 = some r) :
    Calls Tryd.prog 51 #[.bool a0] w fun e w' => ∃ v0_ : Value, e = .returned (v0_) ∧ Kd.R k23 23 w' w.heap.size (fun _ => True) v0_ r ∧ Below w.heap.size w w' := by
  have hu23 := Tryd.underlying23
  have HB := Aside0.mk (Below.refl w.heap.size w)
  have H : (almanackerref09_codes.l0 k a0 ([] : List (S23)) 1) = some r := h
  clear h
  have H' := Aside0.mk H
  clear H
  go_enter Tryd.func51, Tryd.ntmps51
  go_wp2
  go_loopg [3, 4] k (fun kq v3 v4 w' => ∃ (x3_1 : List (S23)) (x4_1 : Int), v4 = .int .i64 x4_1 ∧ Aside0 (almanackerref09_codes.l0 kq a0 x3_1 x4_1 = some r) ∧ Aside0 (kq ≤ k) ∧ Aside0 (Kd.R k23 23 w' w.heap.size (fun _ => True) v3 x3_1) ∧ Aside0 (Below w.heap.size w w'))
  case atStart => exact ⟨(([] : List (S23))), (1), (by first | rfl | (simp; done) | (simp [*]; done)), H', ⟨Nat.le_refl _⟩, ⟨by first | exact Kd.R_nil _ _ _ _ _ | exact Kd.N_nil _ _ _ _ _ | exact Kd.V_nil _ _ _ _ _ | exact Kd.Q_nil _ _ _ _ _ | exact Kd.S_nil _ _ _ _ _⟩, ⟨by repeat (first | (with_reducible first | exact HB.out | apply below_alloc | apply pw_below_drewN | apply below_drew1) | exact HB.out)⟩⟩
  case round =>
    clear H'
    obtain ⟨x3_1, x4_1, rfl, HA, HK1, HO_3, HB⟩ := hrel
    cases gk with
    | zero => exact absurd HA.out (by simp [almanackerref09_codes.l0])
    | succ k1 =>
      have H := HA.out
      clear HA
      simp only [almanackerref09_codes.l0] at H
      by_cases c2 : x4_1 ≤ 12
      · rw [if_pos c2] at H
        have c2b0 : decide (x4_1 ≤ 12) = true := decide_eq_true c2
        clear c2
        by_cases c3 : x3_1.length < 8796093022208
        · rw [if_pos c3] at H
          have LMc3 := Aside0.mk c3
          clear c3
          obtain ⟨y236, hy236⟩ : ∃ y_ : List (S23), y_ = (x3_1 ++ [(⟨x4_1, false⟩ : S23)]) := ⟨_, rfl⟩
          replace H : (if x4_1 = 5 then (if a0 = true then (if y236.length < 8796093022208 then (almanackerref09_codes.l0 k1 a0 (y236 ++ [(⟨5, true⟩ : S23)]) (wrap64 (x4_1 + 1))) else (none)) else (almanackerref09_codes.l0 k1 a0 y236 (wrap64 (x4_1 + 1)))) else (almanackerref09_codes.l0 k1 a0 y236 (wrap64 (x4_1 + 1)))) = some r := by first | (rw [hy236]; with_reducible exact H) | (have H2_ := (Option.bind_some _ _).symm.trans H; rw [hy236]; with_reducible exact H2_) | (have H2_ := (Option.bind_some _ _).symm.trans H; with_reducible exact H2_) | with_reducible exact H | (rw [hy236]; exact H) | exact H
          have Ny236 := Aside0.mk hy236
          clear hy236
          by_cases c4 : x4_1 = 5
          · rw [if_pos c4] at H
            have c4b0 : (x4_1 == 5) = true := beq_iff_eq.mpr c4
            have c4b1 : (x4_1 != 5) = false := bne_eq_false_iff_eq.mpr c4
            clear c4
            by_cases c5 : a0 = true
            · subst c5
              have H1 : (if y236.length < 8796093022208 then (almanackerref09_codes.l0 k1 true (y236 ++ [(⟨5, true⟩ : S23)]) (wrap64 (x4_1 + 1))) else (none)) = some r := by rw [if_pos rfl] at H; exact H
              clear H
              have H := H1
              clear H1
              by_cases c6 : y236.length < 8796093022208
              · rw [if_pos c6] at H
                have LMc6 := Aside0.mk c6
                clear c6
                obtain ⟨y239, hy239⟩ : ∃ y_ : List (S23), y_ = (y236 ++ [(⟨5, true⟩ : S23)]) := ⟨_, rfl⟩
                replace H : (almanackerref09_codes.l0 k1 true y239 (wrap64 (x4_1 + 1))) = some r := by first | (rw [hy239]; with_reducible exact H) | (have H2_ := (Option.bind_some _ _).symm.trans H; rw [hy239]; with_reducible exact H2_) | (have H2_ := (Option.bind_some _ _).symm.trans H; with_reducible exact H2_) | with_reducible exact H | (rw [hy239]; exact H) | exact H
                have Ny239 := Aside0.mk hy239
                clear hy239
                have H' := Aside0.mk H
                clear H
                go_wp2_with (first | ((with_reducible refine gate_builtin (b := .append) (xs := #[.tmp 9, .tmp 12]) rfl ?_); at_builtin; refine Kd.R_append k23 (w0 := w) w.heap.size rfl (.tmp 9) (.tmp 12) 71 23 (.agg #[(.int .i64 0), (.bool false)]) 16 rfl Tryd.underlying71 info23 rfl (by decide) (by omega) u3 x3_1 (⟨x4_1, false⟩ : S23) [.int .i64 x4_1, .bool false] (fun _ => True) (fun _ => False) rfl rfl ?aP (fun _ hk => hk.elim) ?aF ?aO ?aB ?aS ?aL ?_; (case aP => exact k23_mkM _ _ _ (⟨x4_1, false⟩ : S23)); (case aB => exact (by repeat (first | (with_reducible first | exact HB.out | apply below_alloc | apply pw_below_drewN | apply below_drew1) | exact HB.out))); (case aF => exact (fun _ _ => trivial)); (case aO => exact (by (with_reducible repeat (first | apply Kd.R_alloc | apply Kd.R_drewN | apply Kd.R_drew)); exact HO_3.out)); (case aS => exact (below_size (by repeat (first | (with_reducible first | exact HB.out | apply below_alloc | apply pw_below_drewN | apply below_drew1) | exact HB.out)))); (case aL => have := LMc3.out; omega); intro v237 w7 ho hb hg hat; rw [← Ny236.out] at ho; have n0_ := Aside0.mk (hb); have n1_ := Aside0.mk (ho); clear HB; clear HO_3; have HB := n0_; have HO238 := n1_; clear n0_ n1_; clear ho hb hg hat) | ((with_reducible refine gate_builtin (b := .append) (xs := #[.tmp 19, .tmp 21]) rfl ?_); at_builtin; refine Kd.R_append k23 (w0 := w) w.heap.size rfl (.tmp 19) (.tmp 21) 71 23 (.agg #[(.int .i64 0), (.bool false)]) 16 rfl Tryd.underlying71 info23 rfl (by decide) (by omega) v237 y236 (⟨5, true⟩ : S23) [.int .i64 5, .bool true] (fun _ => True) (fun _ => False) rfl rfl ?aP (fun _ hk => hk.elim) ?aF ?aO ?aB ?aS ?aL ?_; (case aP => exact k23_mkM _ _ _ (⟨5, true⟩ : S23)); (case aB => exact (by repeat (first | (with_reducible first | exact HB.out | apply below_alloc | apply pw_below_drewN | apply below_drew1) | exact HB.out))); (case aF => exact (fun _ _ => trivial)); (case aO => exact (by (with_reducible repeat (first | apply Kd.R_alloc | apply Kd.R_drewN | apply Kd.R_drew)); exact HO238.out)); (case aS => exact (below_size (by repeat (first | (with_reducible first | exact HB.out | apply below_alloc | apply pw_below_drewN | apply below_drew1) | exact HB.out)))); (case aL => have := LMc6.out; omega); intro v240 w8 ho hb hg hat; rw [← Ny239.out] at ho; have n0_ := Aside0.mk (hb); have n1_ := Aside0.mk (ho); clear HB; clear HO238; have HB := n0_; have HO241 := n1_; clear n0_ n1_; clear ho hb hg hat))
                go_roundg k1
                case measure => have := HK1.out; omega
                case rel => exact ⟨(y239), (wrap64 (x4_1 + 1)), (by first | rfl | (simp; done) | (simp [*]; done)), H', ⟨by have := HK1.out; omega⟩, ⟨by (with_reducible repeat (first | apply Kd.R_alloc | apply Kd.R_drewN | apply Kd.R_drew)); exact HO241.out⟩, ⟨by repeat (first | (with_reducible first | exact HB.out | apply below_alloc | apply pw_below_drewN | apply below_drew1) | exact HB.out)⟩⟩
              · rw [if_neg c6] at H
                exact absurd H (by simp)
            · replace c5 := Bool.eq_false_iff.mpr c5
              subst c5
              have H1 : (almanackerref09_codes.l0 k1 false y236 (wrap64 (x4_1 + 1))) = some r := by rw [if_neg (show ¬ (false = true) by decide)] at H; exact H
              clear H
              have H := H1
              clear H1
              have H' := Aside0.mk H
              clear H
              go_wp2_with (first | ((with_reducible refine gate_builtin (b := .append) (xs := #[.tmp 9, .tmp 12]) rfl ?_); at_builtin; refine Kd.R_append k23 (w0 := w) w.heap.size rfl (.tmp 9) (.tmp 12) 71 23 (.agg #[(.int .i64 0), (.bool false)]) 16 rfl Tryd.underlying71 info23 rfl (by decide) (by omega) u3 x3_1 (⟨x4_1, false⟩ : S23) [.int .i64 x4_1, .bool false] (fun _ => True) (fun _ => False) rfl rfl ?aP (fun _ hk => hk.elim) ?aF ?aO ?aB ?aS ?aL ?_; (case aP => exact k23_mkM _ _ _ (⟨x4_1, false⟩ : S23)); (case aB => exact (by repeat (first | (with_reducible first | exact HB.out | apply below_alloc | apply pw_below_drewN | apply below_drew1) | exact HB.out))); (case aF => exact (fun _ _ => trivial)); (case aO => exact (by (with_reducible repeat (first | apply Kd.R_alloc | apply Kd.R_drewN | apply Kd.R_drew)); exact HO_3.out)); (case aS => exact (below_size (by repeat (first | (with_reducible first | exact HB.out | apply below_alloc | apply pw_below_drewN | apply below_drew1) | exact HB.out)))); (case aL => have := LMc3.out; omega); intro v237 w9 ho hb hg hat; rw [← Ny236.out] at ho; have n0_ := Aside0.mk (hb); have n1_ := Aside0.mk (ho); clear HB; clear HO_3; have HB := n0_; have HO238 := n1_; clear n0_ n1_; clear ho hb hg hat))
              go_roundg k1
              case measure => have := HK1.out; omega
              case rel => exact ⟨(y236), (wrap64 (x4_1 + 1)), (by first | rfl | (simp; done) | (simp [*]; done)), H', ⟨by have := HK1.out; omega⟩, ⟨by (with_reducible repeat (first | apply Kd.R_alloc | apply Kd.R_drewN | apply Kd.R_drew)); exact HO238.out⟩, ⟨by repeat (first | (with_reducible first | exact HB.out | apply below_alloc | apply pw_below_drewN | apply below_drew1) | exact HB.out)⟩⟩
          · rw [if_neg c4] at H
            have c4b0 : (x4_1 == 5) = false := beq_eq_false_iff_ne.mpr c4
            have c4b1 : (x4_1 != 5) = true := bne_iff_ne.mpr c4
            have H' := Aside0.mk H
            clear H
            go_wp2_with (first | ((with_reducible refine gate_builtin (b := .append) (xs := #[.tmp 9, .tmp 12]) rfl ?_); at_builtin; refine Kd.R_append k23 (w0 := w) w.heap.size rfl (.tmp 9) (.tmp 12) 71 23 (.agg #[(.int .i64 0), (.bool false)]) 16 rfl Tryd.underlying71 info23 rfl (by decide) (by omega) u3 x3_1 (⟨x4_1, false⟩ : S23) [.int .i64 x4_1, .bool false] (fun _ => True) (fun _ => False) rfl rfl ?aP (fun _ hk => hk.elim) ?aF ?aO ?aB ?aS ?aL ?_; (case aP => exact k23_mkM _ _ _ (⟨x4_1, false⟩ : S23)); (case aB => exact (by repeat (first | (with_reducible first | exact HB.out | apply below_alloc | apply pw_below_drewN | apply below_drew1) | exact HB.out))); (case aF => exact (fun _ _ => trivial)); (case aO => exact (by (with_reducible repeat (first | apply Kd.R_alloc | apply Kd.R_drewN | apply Kd.R_drew)); exact HO_3.out)); (case aS => exact (below_size (by repeat (first | (with_reducible first | exact HB.out | apply below_alloc | apply pw_below_drewN | apply below_drew1) | exact HB.out)))); (case aL => have := LMc3.out; omega); intro v237 w10 ho hb hg hat; rw [← Ny236.out] at ho; have n0_ := Aside0.mk (hb); have n1_ := Aside0.mk (ho); clear HB; clear HO_3; have HB := n0_; have HO238 := n1_; clear n0_ n1_; clear ho hb hg hat))
            go_roundg k1
            case measure => have := HK1.out; omega
            case rel => exact ⟨(y236), (wrap64 (x4_1 + 1)), (by first | rfl | (simp; done) | (simp [*]; done)), H', ⟨by have := HK1.out; omega⟩, ⟨by (with_reducible repeat (first | apply Kd.R_alloc | apply Kd.R_drewN | apply Kd.R_drew)); exact HO238.out⟩, ⟨by repeat (first | (with_reducible first | exact HB.out | apply below_alloc | apply pw_below_drewN | apply below_drew1) | exact HB.out)⟩⟩
        · rw [if_neg c3] at H
          exact absurd H (by simp)
      · rw [if_neg c2] at H
        have c2b0 : decide (x4_1 ≤ 12) = false := decide_eq_false c2
        clear c2
        obtain rfl := Option.some.inj H
        go_wp2
        go_ret
        exact ⟨_, by first | rfl | (simp [errW_none, errW_some] <;> rfl) | (simp [*, errW_none, errW_some] <;> rfl), by (with_reducible repeat (first | apply Kd.R_alloc | apply Kd.R_drewN | apply Kd.R_drew)); exact HO_3.out, by repeat (first | (with_reducible first | exact HB.out | apply below_alloc | apply pw_below_drewN | apply below_drew1) | exact HB.out)⟩

def almanackerref09_Place.l0 : Nat → List (S23) → Int → Int → Bool → Option (Int × Bool)
  | 0, _, _, _, _ => none
  | k + 1, x6, x7, x243000, x243001 => if x7 < (x6.length : Int) then (if 0 ≤ x7 then (if (((rd_T23 x6 x7).f0) == x243000 && (((rd_T23 x6 x7).f1) == x243001)) = true then (some (wrap64 (x7 + 1), true)) else (almanackerref09_Place.l0 k x6 (wrap64 (x7 + 1)) x243000 x243001)) else (none)) else (some (0, false))
def almanackerref09_Place.f (k : Nat) (a0 : Bool) (a1_0 : Int) (a1_1 : Bool) : Option (Int × Bool) := (almanackerref09_codes.f k a0).bind fun t243 => (almanackerref09_Place.l0 k t243 0 a1_0 a1_1)
set_option maxHeartbeats 8000000 in
set_option maxRecDepth 100000 in
theorem almanackerref09_Place.calls (k : Nat) (a0 : Bool) (a1_0 : Int) (a1_1 : Bool) (r1 : Int) (r2 : Bool) (w : World) (h : almanackerref09_Place.f k a0 a1_0 a1_1 = some (r1, r2)) :
    Calls Tryd.prog 25 #[.bool a0, .agg #[.int .i64 a1_0, .bool a1_1]] w fun e w' => e = .returned (.tuple #[.int .i64 r1, .bool r2]) ∧ Below w.heap.size w w' := by
  have hu23 := Tryd.underlying23
  have HB := Aside0.mk (Below.refl w.heap.size w)
  have H : ((almanackerref09_codes.f k a0).bind fun t243 => (almanackerref09_Place.l0 k t243 0 a1_0 a1_1)) = some (r1, r2) := h
  clear h
  replace H := Option.bind_eq_some_iff.mp H
  obtain ⟨t243, A30, H⟩ := H
  replace H : (almanackerref09_Place.l0 k t243 0 a1_0 a1_1) = some (r1, r2) := H
  have A3 := Aside0.mk A30
  clear A30
  have H' := Aside0.mk H
  clear H
  go_enter Tryd.func25, Tryd.ntmps25
  go_wp2_with (first | ((with_reducible refine gate_dst (N := 3) rfl ?_); refine box_event ?hg (N := 3) ?hd (cs := #[.int .i64 a1_0, .bool a1_1]) (t := 23) ?hr ?_; (case hd => rfl); (case hg => rfl); (case hr => first | (go_simp; done) | (go_simp; rfl)); intro gb242 hg w4 hbox hb; have n0_ := Aside0.mk (below_step (by repeat (first | (with_reducible first | exact HB.out | apply below_alloc | apply pw_below_drewN | apply below_drew1) | exact HB.out)) hb); have n1_ := Aside0.mk (hbox); have n2_ := Aside0.mk ((by rw [hg]; exact (below_size (by repeat (first | (with_reducible first | exact HB.out | apply below_alloc | apply pw_below_drewN | apply below_drew1) | exact HB.out))) : w.heap.size ≤ gb242)); have n3_ := Aside0.mk ((by rw [hg]; exact (below_size (by repeat (first | (with_reducible first | exact HB.out | apply below_alloc | apply pw_below_drewN | apply below_drew1) | exact HB.out))) : w.heap.size ≤ gb242)); clear HB; have HB := n0_; have BK242 := n1_; have GW242 := n2_; have GE242 := n3_; clear n0_ n1_ n2_ n3_; clear hb hbox hg) | (go_at_call 51; (with_reducible refine (almanackerref09_codes.calls k a0 t243 _ A3.out).mono ?_); rintro e w5 ⟨v244, rfl, ho0, hb⟩; have n0_ := Aside0.mk (Kd.R_lower (Kd.R_newB ho0 (g := gb242) (o := .cells #[.int .i64 a1_0, .bool a1_1] 23 (0, 0)) (by (with_reducible repeat (first | refine blk_drewN ?_ _ | refine blk_drew ?_ | refine blk_alloc ?_ _)); exact BK242.out)) (below_size (by repeat (first | (with_reducible first | exact HB.out | apply below_alloc | apply pw_below_drewN | apply below_drew1 | refine below_set ?_ GE242.out) | exact HB.out)))); have n1_ := Aside0.mk (blk_below (g := gb242) (o := .cells #[.int .i64 a1_0, .bool a1_1] 23 (0, 0)) (by (with_reducible repeat (first | refine blk_drewN ?_ _ | refine blk_drew ?_ | refine blk_alloc ?_ _)); exact BK242.out) hb); have n2_ := Aside0.mk (below_step (by repeat (first | (with_reducible first | exact HB.out | apply below_alloc | apply pw_below_drewN | apply below_drew1 | refine below_set ?_ GE242.out) | exact HB.out)) hb); clear BK242; clear HB; have HO245 := n0_; have BK242 := n1_; have HB := n2_; clear n0_ n1_ n2_; (try clear hb); (try clear hb2); (try clear hk); (try clear hi); (try clear ho0)))
  repeat (go_quiet (first | ((with_reducible refine gate_dst (N := 3) rfl ?_); refine box_event ?hg (N := 3) ?hd (cs := #[.int .i64 a1_0, .bool a1_1]) (t := 23) ?hr ?_; (case hd => rfl); (case hg => rfl); (case hr => first | (go_simp; done) | (go_simp; rfl)); intro gb242 hg w4 hbox hb; have n0_ := Aside0.mk (below_step (by repeat (first | (with_reducible first | exact HB.out | apply below_alloc | apply pw_below_drewN | apply below_drew1) | exact HB.out)) hb); have n1_ := Aside0.mk (hbox); have n2_ := Aside0.mk ((by rw [hg]; exact (below_size (by repeat (first | (with_reducible first | exact HB.out | apply below_alloc | apply pw_below_drewN | apply below_drew1) | exact HB.out))) : w.heap.size ≤ gb242)); have n3_ := Aside0.mk ((by rw [hg]; exact (below_size (by repeat (first | (with_reducible first | exact HB.out | apply below_alloc | apply pw_below_drewN | apply below_drew1) | exact HB.out))) : w.heap.size ≤ gb242)); clear HB; have HB := n0_; have BK242 := n1_; have GW242 := n2_; have GE242 := n3_; clear n0_ n1_ n2_ n3_; clear hb hbox hg) | (go_at_call 51; (with_reducible refine (almanackerref09_codes.calls k a0 t243 _ A3.out).mono ?_); rintro e w5 ⟨v244, rfl, ho0, hb⟩; have n0_ := Aside0.mk (Kd.R_lower (Kd.R_newB ho0 (g := gb242) (o := .cells #[.int .i64 a1_0, .bool a1_1] 23 (0, 0)) (by (with_reducible repeat (first | refine blk_drewN ?_ _ | refine blk_drew ?_ | refine blk_alloc ?_ _)); exact BK242.out)) (below_size (by repeat (first | (with_reducible first | exact HB.out | apply below_alloc | apply pw_below_drewN | apply below_drew1 | refine below_set ?_ GE242.out) | exact HB.out)))); have n1_ := Aside0.mk (blk_below (g := gb242) (o := .cells #[.int .i64 a1_0, .bool a1_1] 23 (0, 0)) (by (with_reducible repeat (first | refine blk_drewN ?_ _ | refine blk_drew ?_ | refine blk_alloc ?_ _)); exact BK242.out) hb); have n2_ := Aside0.mk (below_step (by repeat (first | (with_reducible first | exact HB.out | apply below_alloc | apply pw_below_drewN | apply below_drew1 | refine below_set ?_ GE242.out) | exact HB.out)) hb); clear BK242; clear HB; have HO245 := n0_; have BK242 := n1_; have HB := n2_; clear n0_ n1_ n2_; (try clear hb); (try clear hb2); (try clear hk); (try clear hi); (try clear ho0))); try go_wp2_with (first | ((with_reducible refine gate_dst (N := 3) rfl ?_); refine box_event ?hg (N := 3) ?hd (cs := #[.int .i64 a1_0, .bool a1_1]) (t := 23) ?hr ?_; (case hd => rfl); (case hg => rfl); (case hr => first | (go_simp; done) | (go_simp; rfl)); intro gb242 hg w4 hbox hb; have n0_ := Aside0.mk (below_step (by repeat (first | (with_reducible first | exact HB.out | apply below_alloc | apply pw_below_drewN | apply below_drew1) | exact HB.out)) hb); have n1_ := Aside0.mk (hbox); have n2_ := Aside0.mk ((by rw [hg]; exact (below_size (by repeat (first | (with_reducible first | exact HB.out | apply below_alloc | apply pw_below_drewN | apply below_drew1) | exact HB.out))) : w.heap.size ≤ gb242)); have n3_ := Aside0.mk ((by rw [hg]; exact (below_size (by repeat (first | (with_reducible first | exact HB.out | apply below_alloc | apply pw_below_drewN | apply below_drew1) | exact HB.out))) : w.heap.size ≤ gb242)); clear HB; have HB := n0_; have BK242 := n1_; have GW242 := n2_; have GE242 := n3_; clear n0_ n1_ n2_ n3_; clear hb hbox hg) | (go_at_call 51; (with_reducible refine (almanackerref09_codes.calls k a0 t243 _ A3.out).mono ?_); rintro e w5 ⟨v244, rfl, ho0, hb⟩; have n0_ := Aside0.mk (Kd.R_lower (Kd.R_newB ho0 (g := gb242) (o := .cells #[.int .i64 a1_0, .bool a1_1] 23 (0, 0)) (by (with_reducible repeat (first | refine blk_drewN ?_ _ | refine blk_drew ?_ | refine blk_alloc ?_ _)); exact BK242.out)) (below_size (by repeat (first | (with_reducible first | exact HB.out | apply below_alloc | apply pw_below_drewN | apply below_drew1 | refine below_set ?_ GE242.out) | exact HB.out)))); have n1_ := Aside0.mk (blk_below (g := gb242) (o := .cells #[.int .i64 a1_0, .bool a1_1] 23 (0, 0)) (by (with_reducible repeat (first | refine blk_drewN ?_ _ | refine blk_drew ?_ | refine blk_alloc ?_ _)); exact BK242.out) hb); have n2_ := Aside0.mk (below_step (by repeat (first | (with_reducible first | exact HB.out | apply below_alloc | apply pw_below_drewN | apply below_drew1 | refine below_set ?_ GE242.out) | exact HB.out)) hb); clear BK242; clear HB; have HO245 := n0_; have BK242 := n1_; have HB := n2_; clear n0_ n1_ n2_; (try clear hb); (try clear hb2); (try clear hk); (try clear hi); (try clear ho0))))
  go_loopg [7] k (fun kq v7 w' => ∃ (x7_1 : Int), v7 = .int .i64 x7_1 ∧ Aside0 (almanackerref09_Place.l0 kq t243 x7_1 a1_0 a1_1 = some (r1, r2)) ∧ Aside0 (kq ≤ k) ∧ Aside0 (Kd.R k23 23 w' w.heap.size (fun k_ => k_ ≠ gb242) v244 t243) ∧ Aside0 (w'.heap[gb242]? = some (.cells #[.int .i64 a1_0, .bool a1_1] 23 (0, 0))) ∧ Aside0 (Below w.heap.size w w'))
  case atStart => exact ⟨(0), (by first | rfl | (simp; done) | (simp [*]; done)), H', ⟨Nat.le_refl _⟩, ⟨by (with_reducible repeat (first | apply Kd.R_alloc | apply Kd.R_drewN | apply Kd.R_drew)); exact Kd.R_mono HO245.out (fun _ hk => hk.2)⟩, ⟨by (with_reducible repeat (first | refine blk_drewN ?_ _ | refine blk_drew ?_ | refine blk_alloc ?_ _)); exact BK242.out⟩, ⟨by repeat (first | (with_reducible first | exact HB.out | apply below_alloc | apply pw_below_drewN | apply below_drew1 | refine below_set ?_ GE242.out) | exact HB.out)⟩⟩
  case round =>
    clear H'
    try clear c2
    try clear p2
    obtain ⟨x7_1, rfl, HA, HK1, HO_6, BK242, HB⟩ := hrel
    cases gk with
    | zero => exact absurd HA.out (by simp [almanackerref09_Place.l0])
    | succ k1 =>
      have H := HA.out
      clear HA
      simp only [almanackerref09_Place.l0] at H
      by_cases c6 : x7_1 < (t243.length : Int)
      · rw [if_pos c6] at H
        have c6b0 : decide (x7_1 < (t243.length : Int)) = true := decide_eq_true c6
        clear c6
        by_cases c7 : 0 ≤ x7_1
        · rw [if_pos c7] at H
          have c7b0 : decide (0 ≤ x7_1) = true := decide_eq_true c7
          clear c7
          by_cases c8 : (((rd_T23 t243 x7_1).f0) == a1_0 && (((rd_T23 t243 x7_1).f1) == a1_1)) = true
          · rw [if_pos c8] at H
            have c8b0 : (((rd_T23 t243 x7_1).f0) == a1_0 && (((rd_T23 t243 x7_1).f1) == a1_1)) = true := c8
            (try (have c8b1 : decide (((rd_T23 t243 x7_1).f0) = a1_0 && (((rd_T23 t243 x7_1).f1) == a1_1)) = true := by simpa using c8))
            (try (have c8b2 : (((rd_T23 t243 x7_1).f0) == a1_0 && (((rd_T23 t243 x7_1).f1) == a1_1)) = true := by simpa using c8))
            clear c8
            simp only [Option.some.injEq, Prod.mk.injEq] at H
            obtain ⟨rfl, rfl⟩ := H
            obtain ⟨Ao9, co9, eo9⟩ := Kd.R_slice HO_6.out
            subst eo9
            have p246 : 0 ≤ (x7_1 : Int) := of_decide_eq_true (by first | (with_reducible assumption) | assumption)
            have q246 : x7_1 < (t243.length : Int) := of_decide_eq_true (by first | (with_reducible assumption) | assumption)
            obtain ⟨ad246, e246, hx246_0, hx246_1⟩ := at_T23 (Kd.R_reads' HO_6.out).2.2 x7_1 p246 q246
            cases e246
            replace p246 := eq_true p246
            replace q246 := eq_true q246
            have hcz10_0 : wr.cell? ⟨gb242, 0, none⟩ = some (.int .i64 a1_0) := (blk_cell BK242.out 0).trans rfl
            have hcz10_1 : wr.cell? ⟨gb242, 1, none⟩ = some (.bool a1_1) := (blk_cell BK242.out 1).trans rfl
            have hfz10_0 := blk_frozen BK242.out 0
            have hfz10_1 := blk_frozen BK242.out 1
            go_wp2
            repeat (go_quiet (fail); try go_wp2)
            go_ret2
            exact ⟨by first | rfl | (simp [errW_none, errW_some] <;> rfl) | (simp [*, errW_none, errW_some] <;> rfl), by repeat (first | (with_reducible first | exact HB.out | apply below_alloc | apply pw_below_drewN | apply below_drew1 | refine below_set ?_ GE242.out) | exact HB.out)⟩
          · rw [if_neg c8] at H
            have c8b0 : (((rd_T23 t243 x7_1).f0) == a1_0 && (((rd_T23 t243 x7_1).f1) == a1_1)) = false := by simpa using c8
            (try (have c8b1 : decide (((rd_T23 t243 x7_1).f0) = a1_0 && (((rd_T23 t243 x7_1).f1) == a1_1)) = false := by simpa using c8))
            (try (have c8b2 : (((rd_T23 t243 x7_1).f0) == a1_0 && (((rd_T23 t243 x7_1).f1) == a1_1)) = false := by simpa using c8))
            (try (have c8b3 : ¬ (((rd_T23 t243 x7_1).f0) = a1_0 && (((rd_T23 t243 x7_1).f1) == a1_1)) := by simpa using c8))
            clear c8
            have H' := Aside0.mk H
            clear H
            obtain ⟨Ao11, co11, eo11⟩ := Kd.R_slice HO_6.out
            subst eo11
            have p246 : 0 ≤ (x7_1 : Int) := of_decide_eq_true (by first | (with_reducible assumption) | assumption)
            have q246 : x7_1 < (t243.length : Int) := of_decide_eq_true (by first | (with_reducible assumption) | assumption)
            obtain ⟨ad246, e246, hx246_0, hx246_1⟩ := at_T23 (Kd.R_reads' HO_6.out).2.2 x7_1 p246 q246
            cases e246
            replace p246 := eq_true p246
            replace q246 := eq_true q246
            have hcz12_0 : wr.cell? ⟨gb242, 0, none⟩ = some (.int .i64 a1_0) := (blk_cell BK242.out 0).trans rfl
            have hcz12_1 : wr.cell? ⟨gb242, 1, none⟩ = some (.bool a1_1) := (blk_cell BK242.out 1).trans rfl
            have hfz12_0 := blk_frozen BK242.out 0
            have hfz12_1 := blk_frozen BK242.out 1
            go_wp2
            repeat (go_quiet (fail); try go_wp2)
            go_roundg k1
            case measure => have := HK1.out; omega
            case rel => exact ⟨(wrap64 (x7_1 + 1)), (by first | rfl | (simp; done) | (simp [*]; done)), H', ⟨by have := HK1.out; omega⟩, ⟨by (with_reducible repeat (first | apply Kd.R_alloc | apply Kd.R_drewN | apply Kd.R_drew)); exact HO_6.out⟩, ⟨by (with_reducible repeat (first | refine blk_drewN ?_ _ | refine blk_drew ?_ | refine blk_alloc ?_ _)); exact BK242.out⟩, ⟨by repeat (first | (with_reducible first | exact HB.out | apply below_alloc | apply pw_below_drewN | apply below_drew1 | refine below_set ?_ GE242.out) | exact HB.out)⟩⟩
        · rw [if_neg c7] at H
          exact absurd H (by simp)
      · rw [if_neg c6] at H
        have c6b0 : decide (x7_1 < (t243.length : Int)) = false := decide_eq_false c6
        clear c6
        simp only [Option.some.injEq, Prod.mk.injEq] at H
        obtain ⟨rfl, rfl⟩ := H
        obtain ⟨Ao13, co13, eo13⟩ := Kd.R_slice HO_6.out
        subst eo13
        go_wp2
        repeat (go_quiet (fail); try go_wp2)
        go_ret2
        exact ⟨by first | rfl | (simp [errW_none, errW_some] <;> rfl) | (simp [*, errW_none, errW_some] <;> rfl), by repeat (first | (with_reducible first | exact HB.out | apply below_alloc | apply pw_below_drewN | apply below_drew1 | refine below_set ?_ GE242.out) | exact HB.out)⟩

def almanackerref03_Is.f (a0 : Int) : Option (Bool) := (almanackerref01_Left.f (wrap64 ((wrap64 (7 * a0)) + 1)) 19).bind fun t247 => (some (decide (t247 < 7)))
set_option maxHeartbeats 8000000 in
set_option maxRecDepth 100000 in
theorem almanackerref03_Is.calls (a0 : Int) (r : Bool) (w : World) (h : almanackerref03_Is.f a0 = some r) :
    Calls Tryd.prog 60 #[.int .i64 a0] w fun e w' => e = .returned (.bool r) ∧ Drawn0 w w' := by
  have H : ((almanackerref01_Left.f (wrap64 ((wrap64 (7 * a0)) + 1)) 19).bind fun t247 => (some (decide (t247 < 7)))) = some r := h
  clear h
  replace H := Option.bind_eq_some_iff.mp H
  obtain ⟨t247, A20, H⟩ := H
  replace H : (some (decide (t247 < 7))) = some r := H
  have A2 := Aside0.mk A20
  clear A20
  obtain rfl := Option.some.inj H
  go_enter Tryd.func60, Tryd.ntmps60
  go_wp2_with (first | ((with_reducible refine gate_callee (f := 56) rfl ?_); refine goesL_ (some 6) rfl rfl Tryd.func56 (by kernel_rfl) rfl #[.int .i64 (wrap64 ((wrap64 (7 * a0)) + 1)), .int .i64 19] rfl (by (try simp only [List.map_toArray, List.map_cons, List.map_nil]); first | done | rfl | (simp only [List.length_drop, List.length_take]; rfl)) ?_; (with_reducible refine (almanackerref01_Left.calls (wrap64 ((wrap64 (7 * a0)) + 1)) 19 t247 _ A2.out).mono ?_); rintro e w' ⟨rfl, ⟨nd, rfl⟩⟩; refine ⟨_, rfl, ?_⟩))
  go_ret
  exact ⟨by first | rfl | (simp; done) | (simp [*]; done), by repeat (first | exact Drawn0.refl _ | apply Drawn0.step)⟩

end Go.Proofs.YtflpddhoiafhcaaDoor.G
end

section
-- Written by wip/hprint.py of this repo (holes typed by hand, all else by a program) over the seat YtflpddhoiafhcaaDoor.
namespace Go.Proofs.YtflpddhoiafhcaaDoor.G
open Go.Proofs.YtflpddhoiafhcaaDoor.H
open Go.RowKit Go.Proofs.YtflpddhoiafhcaaDoorW.PrintWords Go.Proofs.YtflpddhoiafhcaaDoorW.PrintLast Go.Proofs.YtflpddhoiafhcaaDoorW.PrintMore
attribute [local go_sem] max2_int min2_int max_two min_two max_three min_three max_four min_four   -- for this text's walks alone
set_option linter.unusedVariables false
set_option linter.unusedSimpArgs false

theorem eqA111 (d : Nat) (w : World) (x0 y0 : Int) (x1 y1 : Int) (x2 y2 : Bool) :
    (Op.equalIn (d + 2) 111 (.agg #[.int .i64 x0, .int .i64 x1, .bool x2]) (.agg #[.int .i64 y0, .int .i64 y1, .bool y2])).run Tryd.prog w = .ok (x0 == y0 && (x1 == y1 && (x2 == y2))) w := by
  refine eqA_of Tryd.underlying111 (by kernel_rfl) ?_
  refine eqf_cons (by rfl) (by go_simp; rfl) (by go_simp; rfl) (by go_simp) ?_
  refine eqf_cons (by rfl) (by go_simp; rfl) (by go_simp; rfl) (by go_simp) ?_
  exact eqf_last (by rfl) (by go_simp; rfl) (by go_simp; rfl) (by go_simp)
end Go.Proofs.YtflpddhoiafhcaaDoor.G
end

section
-- Written by wip/hprint.py of this repo (holes typed by hand, all else by a program) over the seat YtflpddhoiafhcaaDoor.
namespace Go.Proofs.YtflpddhoiafhcaaDoor.G
open Go.Proofs.YtflpddhoiafhcaaDoor.H
open Go.RowKit Go.Proofs.YtflpddhoiafhcaaDoorW.PrintWords Go.Proofs.YtflpddhoiafhcaaDoorW.PrintLast Go.Proofs.YtflpddhoiafhcaaDoorW.PrintMore
attribute [local go_sem] max2_int min2_int max_two min_two max_three min_three max_four min_four   -- for this text's walks alone
set_option linter.unusedVariables false
set_option linter.unusedSimpArgs false

def almanackerref03_Right.f (a0 : Int) : Option (Bool) := if a0 ≥ 0 then (some (decide (a0 ≤ 10001))) else (some false)
set_option maxHeartbeats 8000000 in
set_option maxRecDepth 100000 in
theorem almanackerref03_Right.calls (a0 : Int) (r : Bool) (w : World) (h : almanackerref03_Right.f a0 = some r) :
    Calls Tryd.prog 123 #[.int .i64 a0] w fun e w' => e = .returned (.bool r) ∧ Drawn0 w w' := by
  have H : (if a0 ≥ 0 then (some (decide (a0 ≤ 10001))) else (some false)) = some r := h
  clear h
  by_cases c2 : a0 ≥ 0
  · rw [if_pos c2] at H
    have c2b0 : decide (0 ≤ a0) = true := decide_eq_true c2
    clear c2
    obtain rfl := Option.some.inj H
    go_enter Tryd.func123, Tryd.ntmps123
    go_wp2
    go_ret
    exact ⟨by first | rfl | (simp; done) | (simp [*]; done), by repeat (first | exact Drawn0.refl _ | apply Drawn0.step)⟩
  · rw [if_neg c2] at H
    have c2b0 : decide (0 ≤ a0) = false := decide_eq_false c2
    clear c2
    obtain rfl := Option.some.inj H
    go_enter Tryd.func123, Tryd.ntmps123
    go_wp2
    go_ret
    exact ⟨by first | rfl | (simp; done) | (simp [*]; done), by repeat (first | exact Drawn0.refl _ | apply Drawn0.step)⟩

def almanackerref03_In.f (a0 : Int) : Option (Int × Int) := (almanackerref03_Right.f a0).bind fun t248 => (if t248 = true then ((almanackerref03_Is.f a0).bind fun t249 => (if t249 = true then (some (13, 0)) else (some (12, 0)))) else (some (0, 2)))
set_option maxHeartbeats 8000000 in
set_option maxRecDepth 100000 in
theorem almanackerref03_In.calls (a0 : Int) (r1 : Int) (r2 : Int) (w : World) (h : almanackerref03_In.f a0 = some (r1, r2)) :
    Calls Tryd.prog 89 #[.int .i64 a0] w fun e w' => e = .returned (.tuple #[.int .i64 r1, .int .i64 r2]) ∧ Drawn0 w w' := by
  have H : ((almanackerref03_Right.f a0).bind fun t248 => (if t248 = true then ((almanackerref03_Is.f a0).bind fun t249 => (if t249 = true then (some (13, 0)) else (some (12, 0)))) else (some (0, 2)))) = some (r1, r2) := h
  clear h
  replace H := Option.bind_eq_some_iff.mp H
  obtain ⟨t248, A20, H⟩ := H
  replace H : (if t248 = true then ((almanackerref03_Is.f a0).bind fun t249 => (if t249 = true then (some (13, 0)) else (some (12, 0)))) else (some (0, 2))) = some (r1, r2) := H
  have A2 := Aside0.mk A20
  clear A20
  by_cases c3 : t248 = true
  · subst c3
    have H1 : ((almanackerref03_Is.f a0).bind fun t249 => (if t249 = true then (some (13, 0)) else (some (12, 0)))) = some (r1, r2) := by rw [if_pos rfl] at H; exact H
    clear H
    have H := H1
    clear H1
    replace H := Option.bind_eq_some_iff.mp H
    obtain ⟨t249, A40, H⟩ := H
    replace H : (if t249 = true then (some (13, 0)) else (some (12, 0))) = some (r1, r2) := H
    have A4 := Aside0.mk A40
    clear A40
    by_cases c5 : t249 = true
    · subst c5
      have H1 : (some (13, 0)) = some (r1, r2) := by rw [if_pos rfl] at H; exact H
      clear H
      have H := H1
      clear H1
      simp only [Option.some.injEq, Prod.mk.injEq] at H
      obtain ⟨rfl, rfl⟩ := H
      go_enter Tryd.func89, Tryd.ntmps89
      go_wp2_with (first | ((with_reducible refine gate_callee (f := 123) rfl ?_); refine goesL_ (some 5) rfl rfl Tryd.func123 (by kernel_rfl) rfl #[.int .i64 a0] rfl (by (try simp only [List.map_toArray, List.map_cons, List.map_nil]); first | done | rfl | (simp only [List.length_drop, List.length_take]; rfl)) ?_; (with_reducible refine (almanackerref03_Right.calls a0 true _ A2.out).mono ?_); rintro e w' ⟨rfl, ⟨nd, rfl⟩⟩; refine ⟨_, rfl, ?_⟩) | ((with_reducible refine gate_callee (f := 60) rfl ?_); refine goesL_ (some 8) rfl rfl Tryd.func60 (by kernel_rfl) rfl #[.int .i64 a0] rfl (by (try simp only [List.map_toArray, List.map_cons, List.map_nil]); first | done | rfl | (simp only [List.length_drop, List.length_take]; rfl)) ?_; (with_reducible refine (almanackerref03_Is.calls a0 true _ A4.out).mono ?_); rintro e w' ⟨rfl, ⟨nd, rfl⟩⟩; refine ⟨_, rfl, ?_⟩))
      go_ret2
      exact ⟨by first | rfl | (simp; done) | (simp [*]; done), by repeat (first | exact Drawn0.refl _ | apply Drawn0.step)⟩
    · replace c5 := Bool.eq_false_iff.mpr c5
      subst c5
      have H1 : (some (12, 0)) = some (r1, r2) := by rw [if_neg (show ¬ (false = true) by decide)] at H; exact H
      clear H
      have H := H1
      clear H1
      simp only [Option.some.injEq, Prod.mk.injEq] at H
      obtain ⟨rfl, rfl⟩ := H
      go_enter Tryd.func89, Tryd.ntmps89
      go_wp2_with (first | ((with_reducible refine gate_callee (f := 123) rfl ?_); refine goesL_ (some 5) rfl rfl Tryd.func123 (by kernel_rfl) rfl #[.int .i64 a0] rfl (by (try simp only [List.map_toArray, List.map_cons, List.map_nil]); first | done | rfl | (simp only [List.length_drop, List.length_take]; rfl)) ?_; (with_reducible refine (almanackerref03_Right.calls a0 true _ A2.out).mono ?_); rintro e w' ⟨rfl, ⟨nd, rfl⟩⟩; refine ⟨_, rfl, ?_⟩) | ((with_reducible refine gate_callee (f := 60) rfl ?_); refine goesL_ (some 8) rfl rfl Tryd.func60 (by kernel_rfl) rfl #[.int .i64 a0] rfl (by (try simp only [List.map_toArray, List.map_cons, List.map_nil]); first | done | rfl | (simp only [List.length_drop, List.length_take]; rfl)) ?_; (with_reducible refine (almanackerref03_Is.calls a0 false _ A4.out).mono ?_); rintro e w' ⟨rfl, ⟨nd, rfl⟩⟩; refine ⟨_, rfl, ?_⟩))
      go_ret2
      exact ⟨by first | rfl | (simp; done) | (simp [*]; done), by repeat (first | exact Drawn0.refl _ | apply Drawn0.step)⟩
  · replace c3 := Bool.eq_false_iff.mpr c3
    subst c3
    have H1 : (some (0, 2)) = some (r1, r2) := by rw [if_neg (show ¬ (false = true) by decide)] at H; exact H
    clear H
    have H := H1
    clear H1
    simp only [Option.some.injEq, Prod.mk.injEq] at H
    obtain ⟨rfl, rfl⟩ := H
    go_enter Tryd.func89, Tryd.ntmps89
    go_wp2_with (first | ((with_reducible refine gate_callee (f := 123) rfl ?_); refine goesL_ (some 5) rfl rfl Tryd.func123 (by kernel_rfl) rfl #[.int .i64 a0] rfl (by (try simp only [List.map_toArray, List.map_cons, List.map_nil]); first | done | rfl | (simp only [List.length_drop, List.length_take]; rfl)) ?_; (with_reducible refine (almanackerref03_Right.calls a0 false _ A2.out).mono ?_); rintro e w' ⟨rfl, ⟨nd, rfl⟩⟩; refine ⟨_, rfl, ?_⟩))
    go_ret2
    exact ⟨by first | rfl | (simp; done) | (simp [*]; done), by repeat (first | exact Drawn0.refl _ | apply Drawn0.step)⟩

def almanackerref01_Down.f (a0 : Int) (a1 : Int) : Option (Int) := if a1 = 0 then (none) else (if (Int.tmod a0 a1) < 0 then (some (wrap64 ((wrap64 (Int.tdiv a0 a1)) - 1))) else (some (wrap64 (Int.tdiv a0 a1))))
set_option maxHeartbeats 8000000 in
set_option maxRecDepth 100000 in
theorem almanackerref01_Down.calls (a0 : Int) (a1 : Int) (r : Int) (w : World) (h : almanackerref01_Down.f a0 a1 = some r) :
    Calls Tryd.prog 124 #[.int .i64 a0, .int .i64 a1] w fun e w' => e = .returned (.int .i64 r) ∧ Drawn0 w w' := by
  have H : (if a1 = 0 then (none) else (if (Int.tmod a0 a1) < 0 then (some (wrap64 ((wrap64 (Int.tdiv a0 a1)) - 1))) else (some (wrap64 (Int.tdiv a0 a1))))) = some r := h
  clear h
  by_cases c3 : a1 = 0
  · rw [if_pos c3] at H
    exact absurd H (by simp)
  · rw [if_neg c3] at H
    have c3b0 : (a1 == 0) = false := beq_eq_false_iff_ne.mpr c3
    have c3b1 : (a1 != 0) = true := bne_iff_ne.mpr c3
    by_cases c4 : (Int.tmod a0 a1) < 0
    · rw [if_pos c4] at H
      have c4b0 : decide ((Int.tmod a0 a1) < 0) = true := decide_eq_true c4
      clear c4
      obtain rfl := Option.some.inj H
      go_enter Tryd.func124, Tryd.ntmps124
      go_wp2
      go_ret
      exact ⟨by first | rfl | (simp; done) | (simp [*]; done), by repeat (first | exact Drawn0.refl _ | apply Drawn0.step)⟩
    · rw [if_neg c4] at H
      have c4b0 : decide ((Int.tmod a0 a1) < 0) = false := decide_eq_false c4
      clear c4
      obtain rfl := Option.some.inj H
      go_enter Tryd.func124, Tryd.ntmps124
      go_wp2
      go_ret
      exact ⟨by first | rfl | (simp; done) | (simp [*]; done), by repeat (first | exact Drawn0.refl _ | apply Drawn0.step)⟩

def almanackerref03_Before.f (a0 : Int) : Option (Int × Int) := (almanackerref03_Right.f a0).bind fun t250 => (if t250 = true then ((almanackerref01_Down.f (wrap64 ((wrap64 (235 * a0)) - 234)) 19).bind fun t251 => (some (t251, 0))) else (some (0, 2)))
set_option maxHeartbeats 8000000 in
set_option maxRecDepth 100000 in
theorem almanackerref03_Before.calls (a0 : Int) (r1 : Int) (r2 : Int) (w : World) (h : almanackerref03_Before.f a0 = some (r1, r2)) :
    Calls Tryd.prog 90 #[.int .i64 a0] w fun e w' => e = .returned (.tuple #[.int .i64 r1, .int .i64 r2]) ∧ Drawn0 w w' := by
  have H : ((almanackerref03_Right.f a0).bind fun t250 => (if t250 = true then ((almanackerref01_Down.f (wrap64 ((wrap64 (235 * a0)) - 234)) 19).bind fun t251 => (some (t251, 0))) else (some (0, 2)))) = some (r1, r2) := h
  clear h
  replace H := Option.bind_eq_some_iff.mp H
  obtain ⟨t250, A20, H⟩ := H
  replace H : (if t250 = true then ((almanackerref01_Down.f (wrap64 ((wrap64 (235 * a0)) - 234)) 19).bind fun t251 => (some (t251, 0))) else (some (0, 2))) = some (r1, r2) := H
  have A2 := Aside0.mk A20
  clear A20
  by_cases c3 : t250 = true
  · subst c3
    have H1 : ((almanackerref01_Down.f (wrap64 ((wrap64 (235 * a0)) - 234)) 19).bind fun t251 => (some (t251, 0))) = some (r1, r2) := by rw [if_pos rfl] at H; exact H
    clear H
    have H := H1
    clear H1
    replace H := Option.bind_eq_some_iff.mp H
    obtain ⟨t251, A40, H⟩ := H
    replace H : (some (t251, 0)) = some (r1, r2) := H
    have A4 := Aside0.mk A40
    clear A40
    simp only [Option.some.injEq, Prod.mk.injEq] at H
    obtain ⟨rfl, rfl⟩ := H
    go_enter Tryd.func90, Tryd.ntmps90
    go_wp2_with (first | ((with_reducible refine gate_callee (f := 123) rfl ?_); refine goesL_ (some 5) rfl rfl Tryd.func123 (by kernel_rfl) rfl #[.int .i64 a0] rfl (by (try simp only [List.map_toArray, List.map_cons, List.map_nil]); first | done | rfl | (simp only [List.length_drop, List.length_take]; rfl)) ?_; (with_reducible refine (almanackerref03_Right.calls a0 true _ A2.out).mono ?_); rintro e w' ⟨rfl, ⟨nd, rfl⟩⟩; refine ⟨_, rfl, ?_⟩) | ((with_reducible refine gate_callee (f := 124) rfl ?_); refine goesL_ (some 10) rfl rfl Tryd.func124 (by kernel_rfl) rfl #[.int .i64 (wrap64 ((wrap64 (235 * a0)) - 234)), .int .i64 19] rfl (by (try simp only [List.map_toArray, List.map_cons, List.map_nil]); first | done | rfl | (simp only [List.length_drop, List.length_take]; rfl)) ?_; (with_reducible refine (almanackerref01_Down.calls (wrap64 ((wrap64 (235 * a0)) - 234)) 19 t251 _ A4.out).mono ?_); rintro e w' ⟨rfl, ⟨nd, rfl⟩⟩; refine ⟨_, rfl, ?_⟩))
    go_ret2
    exact ⟨by first | rfl | (simp; done) | (simp [*]; done), by repeat (first | exact Drawn0.refl _ | apply Drawn0.step)⟩
  · replace c3 := Bool.eq_false_iff.mpr c3
    subst c3
    have H1 : (some (0, 2)) = some (r1, r2) := by rw [if_neg (show ¬ (false = true) by decide)] at H; exact H
    clear H
    have H := H1
    clear H1
    simp only [Option.some.injEq, Prod.mk.injEq] at H
    obtain ⟨rfl, rfl⟩ := H
    go_enter Tryd.func90, Tryd.ntmps90
    go_wp2_with (first | ((with_reducible refine gate_callee (f := 123) rfl ?_); refine goesL_ (some 5) rfl rfl Tryd.func123 (by kernel_rfl) rfl #[.int .i64 a0] rfl (by (try simp only [List.map_toArray, List.map_cons, List.map_nil]); first | done | rfl | (simp only [List.length_drop, List.length_take]; rfl)) ?_; (with_reducible refine (almanackerref03_Right.calls a0 false _ A2.out).mono ?_); rintro e w' ⟨rfl, ⟨nd, rfl⟩⟩; refine ⟨_, rfl, ?_⟩))
    go_ret2
    exact ⟨by first | rfl | (simp; done) | (simp [*]; done), by repeat (first | exact Drawn0.refl _ | apply Drawn0.step)⟩

def almanackerref02_Split.f (a0 : Int) : Option (Int × Int) := (almanackerref01_Down.f a0 25920).bind fun t253 => ((almanackerref01_Left.f a0 25920).bind fun t254 => (some (t253, t254)))
set_option maxHeartbeats 8000000 in
set_option maxRecDepth 100000 in
theorem almanackerref02_Split.calls (a0 : Int) (r1 : Int) (r2 : Int) (w : World) (h : almanackerref02_Split.f a0 = some (r1, r2)) :
    Calls Tryd.prog 125 #[.int .i64 a0] w fun e w' => e = .returned (.agg #[.int .i64 r1, .int .i64 r2]) ∧ Below w.heap.size w w' := by
  have hu86 := Tryd.underlying86
  have HB := Aside0.mk (Below.refl w.heap.size w)
  have H : ((almanackerref01_Down.f a0 25920).bind fun t253 => ((almanackerref01_Left.f a0 25920).bind fun t254 => (some (t253, t254)))) = some (r1, r2) := h
  clear h
  replace H := Option.bind_eq_some_iff.mp H
  obtain ⟨t253, A20, H⟩ := H
  replace H : ((almanackerref01_Left.f a0 25920).bind fun t254 => (some (t253, t254))) = some (r1, r2) := H
  have A2 := Aside0.mk A20
  clear A20
  replace H := Option.bind_eq_some_iff.mp H
  obtain ⟨t254, A30, H⟩ := H
  replace H : (some (t253, t254)) = some (r1, r2) := H
  have A3 := Aside0.mk A30
  clear A30
  simp only [Option.some.injEq, Prod.mk.injEq] at H
  obtain ⟨rfl, rfl⟩ := H
  go_enter Tryd.func125, Tryd.ntmps125
  go_wp2_with (first | ((with_reducible refine gate_dst (N := 2) rfl ?_); refine box_event ?hg (N := 2) ?hd (cs := #[.int .i64 0, .int .i64 0]) (t := 86) ?hr ?_; (case hd => rfl); (case hg => rfl); (case hr => first | (go_simp; done) | (go_simp; rfl)); intro gb252 hg w4 hbox hb; have n0_ := Aside0.mk (below_step (by repeat (first | (with_reducible first | exact HB.out | apply below_alloc | apply pw_below_drewN | apply below_drew1) | exact HB.out)) hb); have n1_ := Aside0.mk (hbox); have n2_ := Aside0.mk ((by rw [hg]; exact (below_size (by repeat (first | (with_reducible first | exact HB.out | apply below_alloc | apply pw_below_drewN | apply below_drew1) | exact HB.out))) : w.heap.size ≤ gb252)); have n3_ := Aside0.mk ((by rw [hg]; exact (below_size (by repeat (first | (with_reducible first | exact HB.out | apply below_alloc | apply pw_below_drewN | apply below_drew1) | exact HB.out))) : w.heap.size ≤ gb252)); clear HB; have HB := n0_; have BK252 := n1_; have GW252 := n2_; have GE252 := n3_; clear n0_ n1_ n2_ n3_; clear hb hbox hg) | ((with_reducible refine gate_callee (f := 124) rfl ?_); refine goesL_ (some 4) rfl rfl Tryd.func124 (by kernel_rfl) rfl #[.int .i64 a0, .int .i64 25920] rfl (by (try simp only [List.map_toArray, List.map_cons, List.map_nil]); first | done | rfl | (simp only [List.length_drop, List.length_take]; rfl)) ?_; (with_reducible refine (almanackerref01_Down.calls a0 25920 t253 _ A2.out).mono ?_); rintro e w' ⟨rfl, ⟨nd, rfl⟩⟩; refine ⟨_, rfl, ?_⟩; (try (rw [drewN_self w4]; generalize hq_ : World.drewN w4 _ = w4; have n0_ : Aside0 (w4.heap[gb252]? = some (.cells #[.int .i64 0, .int .i64 0] 86 (0, 0))) := ⟨by rw [← hq_]; exact (by (with_reducible repeat (first | refine blk_drewN ?_ _ | refine blk_drew ?_ | refine blk_alloc ?_ _)); exact BK252.out)⟩; have n1_ : Aside0 (Below w.heap.size w w4) := ⟨by rw [← hq_]; exact (by repeat (first | (with_reducible first | exact HB.out | apply below_alloc | apply pw_below_drewN | apply below_drew1 | refine below_set ?_ GE252.out) | exact HB.out))⟩; clear BK252 HB hq_; have BK252 := n0_; have HB := n1_; clear n0_ n1_))) | ((with_reducible refine gate_callee (f := 56) rfl ?_); refine goesL_ (some 6) rfl rfl Tryd.func56 (by kernel_rfl) rfl #[.int .i64 a0, .int .i64 25920] rfl (by (try simp only [List.map_toArray, List.map_cons, List.map_nil]); first | done | rfl | (simp only [List.length_drop, List.length_take]; rfl)) ?_; (with_reducible refine (almanackerref01_Left.calls a0 25920 t254 _ A3.out).mono ?_); rintro e w' ⟨rfl, ⟨nd, rfl⟩⟩; refine ⟨_, rfl, ?_⟩; (try (rw [drewN_self w4]; generalize hq_ : World.drewN w4 _ = w4; have n0_ : Aside0 (w4.heap[gb252]? = some (.cells #[.int .i64 0, .int .i64 0] 86 (0, 0))) := ⟨by rw [← hq_]; exact (by (with_reducible repeat (first | refine blk_drewN ?_ _ | refine blk_drew ?_ | refine blk_alloc ?_ _)); exact BK252.out)⟩; have n1_ : Aside0 (Below w.heap.size w w4) := ⟨by rw [← hq_]; exact (by repeat (first | (with_reducible first | exact HB.out | apply below_alloc | apply pw_below_drewN | apply below_drew1 | refine below_set ?_ GE252.out) | exact HB.out))⟩; clear BK252 HB hq_; have BK252 := n0_; have HB := n1_; clear n0_ n1_)); have hcz5_0 : w4.cell? ⟨gb252, 0, none⟩ = some (.int .i64 0) := (blk_cell BK252.out 0).trans rfl; have hcz5_1 : w4.cell? ⟨gb252, 1, none⟩ = some (.int .i64 0) := (blk_cell BK252.out 1).trans rfl; have hfz5_0 := blk_frozen BK252.out 0; have hfz5_1 := blk_frozen BK252.out 1))
  refine bodyPost_ret (results_cell_row rfl _ _ gb252 86 #[.int .i64 t253, .int .i64 t254] (0, 0) _ rfl (by (with_reducible repeat (first | refine blk_drewN ?_ _ | refine blk_drew ?_ | refine blk_alloc ?_ _)); refine blk_put (cs := #[.int .i64 t253, .int .i64 0]) ?_ 1 _ rfl; (with_reducible repeat (first | refine blk_drewN ?_ _ | refine blk_drew ?_ | refine blk_alloc ?_ _)); refine blk_put (cs := #[.int .i64 0, .int .i64 0]) ?_ 0 _ rfl; (with_reducible repeat (first | refine blk_drewN ?_ _ | refine blk_drew ?_ | refine blk_alloc ?_ _)); exact BK252.out) Tryd.underlying86 rfl (by kernel_rfl)) rfl ?_
  exact ⟨by first | rfl | (simp [errW_none, errW_some] <;> rfl) | (simp [*, errW_none, errW_some] <;> rfl), by repeat (first | (with_reducible first | exact HB.out | apply below_alloc | apply pw_below_drewN | apply below_drew1 | refine below_set ?_ GE252.out) | exact HB.out)⟩

def almanackerref04_Moon.f (a0 : Int) : Option (Int × Int × Int) := if a0 < (-200000) then (some (0, 0, 2)) else (if a0 > 200000 then (some (0, 0, 2)) else ((almanackerref02_Split.f (wrap64 (5604 + (wrap64 (765433 * a0))))).bind fun bt256 => (some (wrap64 (bt256.1 - 1373427), bt256.2, 0))))
set_option maxHeartbeats 8000000 in
set_option maxRecDepth 100000 in
theorem almanackerref04_Moon.calls (a0 : Int) (r1 : Int) (r2 : Int) (r3 : Int) (w : World) (h : almanackerref04_Moon.f a0 = some (r1, r2, r3)) :
    Calls Tryd.prog 91 #[.int .i64 a0] w fun e w' => e = .returned (.tuple #[.agg #[.int .i64 r1, .int .i64 r2], .int .i64 r3]) ∧ Below w.heap.size w w' := by
  have hu86 := Tryd.underlying86
  have HB := Aside0.mk (Below.refl w.heap.size w)
  have H : (if a0 < (-200000) then (some (0, 0, 2)) else (if a0 > 200000 then (some (0, 0, 2)) else ((almanackerref02_Split.f (wrap64 (5604 + (wrap64 (765433 * a0))))).bind fun bt256 => (some (wrap64 (bt256.1 - 1373427), bt256.2, 0))))) = some (r1, r2, r3) := h
  clear h
  by_cases c2 : a0 < (-200000)
  · rw [if_pos c2] at H
    have c2b0 : decide (a0 < (-200000)) = true := decide_eq_true c2
    clear c2
    simp only [Option.some.injEq, Prod.mk.injEq] at H
    obtain ⟨rfl, rfl, rfl⟩ := H
    go_enter Tryd.func91, Tryd.ntmps91
    go_wp2_with (first | ((with_reducible refine gate_dst (N := 2) rfl ?_); refine box_event ?hg (N := 2) ?hd (cs := #[.int .i64 0, .int .i64 0]) (t := 86) ?hr ?_; (case hd => rfl); (case hg => rfl); (case hr => first | (go_simp; done) | (go_simp; rfl)); intro gb255 hg w3 hbox hb; have n0_ := Aside0.mk (below_step (by repeat (first | (with_reducible first | exact HB.out | apply below_alloc | apply pw_below_drewN | apply below_drew1) | exact HB.out)) hb); have n1_ := Aside0.mk (hbox); have n2_ := Aside0.mk ((by rw [hg]; exact (below_size (by repeat (first | (with_reducible first | exact HB.out | apply below_alloc | apply pw_below_drewN | apply below_drew1) | exact HB.out))) : w.heap.size ≤ gb255)); have n3_ := Aside0.mk ((by rw [hg]; exact (below_size (by repeat (first | (with_reducible first | exact HB.out | apply below_alloc | apply pw_below_drewN | apply below_drew1) | exact HB.out))) : w.heap.size ≤ gb255)); clear HB; have HB := n0_; have BK255 := n1_; have GW255 := n2_; have GE255 := n3_; clear n0_ n1_ n2_ n3_; clear hb hbox hg; have hcz4_0 : w3.cell? ⟨gb255, 0, none⟩ = some (.int .i64 0) := (blk_cell BK255.out 0).trans rfl; have hcz4_1 : w3.cell? ⟨gb255, 1, none⟩ = some (.int .i64 0) := (blk_cell BK255.out 1).trans rfl; have hfz4_0 := blk_frozen BK255.out 0; have hfz4_1 := blk_frozen BK255.out 1))
    refine bodyPost_ret (results_ct rfl _ _ gb255 86 #[.int .i64 0, .int .i64 0] (0, 0) _ rfl (by (with_reducible repeat (first | refine blk_drewN ?_ _ | refine blk_drew ?_ | refine blk_alloc ?_ _)); refine blk_put (cs := #[.int .i64 0, .int .i64 0]) ?_ 1 _ rfl; (with_reducible repeat (first | refine blk_drewN ?_ _ | refine blk_drew ?_ | refine blk_alloc ?_ _)); refine blk_put (cs := #[.int .i64 0, .int .i64 0]) ?_ 0 _ rfl; (with_reducible repeat (first | refine blk_drewN ?_ _ | refine blk_drew ?_ | refine blk_alloc ?_ _)); exact BK255.out) Tryd.underlying86 rfl (by kernel_rfl)) rfl ?_
    exact ⟨by first | rfl | (simp [errW_none, errW_some] <;> rfl) | (simp [*, errW_none, errW_some] <;> rfl), by repeat (first | (with_reducible first | exact HB.out | apply below_alloc | apply pw_below_drewN | apply below_drew1 | refine below_set ?_ GE255.out) | exact HB.out)⟩
  · rw [if_neg c2] at H
    have c2b0 : decide (a0 < (-200000)) = false := decide_eq_false c2
    clear c2
    by_cases c5 : a0 > 200000
    · rw [if_pos c5] at H
      have c5b0 : decide (200000 < a0) = true := decide_eq_true c5
      clear c5
      simp only [Option.some.injEq, Prod.mk.injEq] at H
      obtain ⟨rfl, rfl, rfl⟩ := H
      go_enter Tryd.func91, Tryd.ntmps91
      go_wp2_with (first | ((with_reducible refine gate_dst (N := 2) rfl ?_); refine box_event ?hg (N := 2) ?hd (cs := #[.int .i64 0, .int .i64 0]) (t := 86) ?hr ?_; (case hd => rfl); (case hg => rfl); (case hr => first | (go_simp; done) | (go_simp; rfl)); intro gb255 hg w6 hbox hb; have n0_ := Aside0.mk (below_step (by repeat (first | (with_reducible first | exact HB.out | apply below_alloc | apply pw_below_drewN | apply below_drew1) | exact HB.out)) hb); have n1_ := Aside0.mk (hbox); have n2_ := Aside0.mk ((by rw [hg]; exact (below_size (by repeat (first | (with_reducible first | exact HB.out | apply below_alloc | apply pw_below_drewN | apply below_drew1) | exact HB.out))) : w.heap.size ≤ gb255)); have n3_ := Aside0.mk ((by rw [hg]; exact (below_size (by repeat (first | (with_reducible first | exact HB.out | apply below_alloc | apply pw_below_drewN | apply below_drew1) | exact HB.out))) : w.heap.size ≤ gb255)); clear HB; have HB := n0_; have BK255 := n1_; have GW255 := n2_; have GE255 := n3_; clear n0_ n1_ n2_ n3_; clear hb hbox hg; have hcz7_0 : w6.cell? ⟨gb255, 0, none⟩ = some (.int .i64 0) := (blk_cell BK255.out 0).trans rfl; have hcz7_1 : w6.cell? ⟨gb255, 1, none⟩ = some (.int .i64 0) := (blk_cell BK255.out 1).trans rfl; have hfz7_0 := blk_frozen BK255.out 0; have hfz7_1 := blk_frozen BK255.out 1))
      refine bodyPost_ret (results_ct rfl _ _ gb255 86 #[.int .i64 0, .int .i64 0] (0, 0) _ rfl (by (with_reducible repeat (first | refine blk_drewN ?_ _ | refine blk_drew ?_ | refine blk_alloc ?_ _)); refine blk_put (cs := #[.int .i64 0, .int .i64 0]) ?_ 1 _ rfl; (with_reducible repeat (first | refine blk_drewN ?_ _ | refine blk_drew ?_ | refine blk_alloc ?_ _)); refine blk_put (cs := #[.int .i64 0, .int .i64 0]) ?_ 0 _ rfl; (with_reducible repeat (first | refine blk_drewN ?_ _ | refine blk_drew ?_ | refine blk_alloc ?_ _)); exact BK255.out) Tryd.underlying86 rfl (by kernel_rfl)) rfl ?_
      exact ⟨by first | rfl | (simp [errW_none, errW_some] <;> rfl) | (simp [*, errW_none, errW_some] <;> rfl), by repeat (first | (with_reducible first | exact HB.out | apply below_alloc | apply pw_below_drewN | apply below_drew1 | refine below_set ?_ GE255.out) | exact HB.out)⟩
    · rw [if_neg c5] at H
      have c5b0 : decide (200000 < a0) = false := decide_eq_false c5
      clear c5
      replace H := Option.bind_eq_some_iff.mp H
      obtain ⟨⟨t256, t257⟩, A80, H⟩ := H
      replace H : (some (wrap64 (t256 - 1373427), t257, 0)) = some (r1, r2, r3) := H
      have A8 := Aside0.mk A80
      clear A80
      simp only [Option.some.injEq, Prod.mk.injEq] at H
      obtain ⟨rfl, rfl, rfl⟩ := H
      go_enter Tryd.func91, Tryd.ntmps91
      go_wp2_with (first | ((with_reducible refine gate_dst (N := 2) rfl ?_); refine box_event ?hg (N := 2) ?hd (cs := #[.int .i64 0, .int .i64 0]) (t := 86) ?hr ?_; (case hd => rfl); (case hg => rfl); (case hr => first | (go_simp; done) | (go_simp; rfl)); intro gb255 hg w9 hbox hb; have n0_ := Aside0.mk (below_step (by repeat (first | (with_reducible first | exact HB.out | apply below_alloc | apply pw_below_drewN | apply below_drew1) | exact HB.out)) hb); have n1_ := Aside0.mk (hbox); have n2_ := Aside0.mk ((by rw [hg]; exact (below_size (by repeat (first | (with_reducible first | exact HB.out | apply below_alloc | apply pw_below_drewN | apply below_drew1) | exact HB.out))) : w.heap.size ≤ gb255)); have n3_ := Aside0.mk ((by rw [hg]; exact (below_size (by repeat (first | (with_reducible first | exact HB.out | apply below_alloc | apply pw_below_drewN | apply below_drew1) | exact HB.out))) : w.heap.size ≤ gb255)); clear HB; have HB := n0_; have BK255 := n1_; have GW255 := n2_; have GE255 := n3_; clear n0_ n1_ n2_ n3_; clear hb hbox hg) | ((with_reducible refine gate_callee (f := 125) rfl ?_); refine goesL_ (some 15) rfl rfl Tryd.func125 (by kernel_rfl) rfl #[.int .i64 (wrap64 (5604 + (wrap64 (765433 * a0))))] rfl (by (try simp only [List.map_toArray, List.map_cons, List.map_nil]); first | done | rfl | (simp only [List.length_drop, List.length_take]; rfl)) ?_; (with_reducible refine (almanackerref02_Split.calls (wrap64 (5604 + (wrap64 (765433 * a0)))) t256 t257 _ A8.out).mono ?_); rintro e w10 ⟨rfl, hb⟩; refine ⟨_, rfl, ?_⟩; have n0_ := Aside0.mk (blk_below (g := gb255) (o := .cells #[.int .i64 0, .int .i64 0] 86 (0, 0)) (by (with_reducible repeat (first | refine blk_drewN ?_ _ | refine blk_drew ?_ | refine blk_alloc ?_ _)); exact BK255.out) hb); have n1_ := Aside0.mk (below_step (by repeat (first | (with_reducible first | exact HB.out | apply below_alloc | apply pw_below_drewN | apply below_drew1 | refine below_set ?_ GE255.out) | exact HB.out)) hb); clear BK255; clear HB; have BK255 := n0_; have HB := n1_; clear n0_ n1_; (try clear hb); (try clear hb2); (try clear hk); (try clear hi)) | ((with_reducible refine gate_dst (N := 4) rfl ?_); refine box_event ?hg (N := 4) ?hd (cs := #[.int .i64 0, .int .i64 0]) (t := 86) ?hr ?_; (case hd => rfl); (case hg => rfl); (case hr => first | (go_simp; done) | (go_simp; rfl)); intro gb258 hg w11 hbox hb; have n0_ := Aside0.mk (blk_below (g := gb255) (o := .cells #[.int .i64 0, .int .i64 0] 86 (0, 0)) (by (with_reducible repeat (first | refine blk_drewN ?_ _ | refine blk_drew ?_ | refine blk_alloc ?_ _)); exact BK255.out) hb); have n1_ := Aside0.mk (below_step (by repeat (first | (with_reducible first | exact HB.out | apply below_alloc | apply pw_below_drewN | apply below_drew1 | refine below_set ?_ GE255.out) | exact HB.out)) hb); have n2_ := Aside0.mk (hbox); have n3_ := Aside0.mk ((by rw [hg]; exact (below_size (by repeat (first | (with_reducible first | exact HB.out | apply below_alloc | apply pw_below_drewN | apply below_drew1 | refine below_set ?_ GE255.out) | exact HB.out))) : w.heap.size ≤ gb258)); have n4_ := Aside0.mk ((by rw [hg]; exact (below_size (by repeat (first | (with_reducible first | exact HB.out | apply below_alloc | apply pw_below_drewN | apply below_drew1 | refine below_set ?_ GE255.out) | exact HB.out))) : w.heap.size ≤ gb258)); have n5_ := Aside0.mk ((by rw [hg]; exact Nat.ne_of_lt (blk_lt (g := gb255) (o := .cells #[.int .i64 0, .int .i64 0] 86 (0, 0)) (by (with_reducible repeat (first | refine blk_drewN ?_ _ | refine blk_drew ?_ | refine blk_alloc ?_ _)); exact BK255.out)) : gb255 ≠ gb258)); have n6_ := Aside0.mk ((by rw [hg]; exact Nat.ne_of_gt (blk_lt (g := gb255) (o := .cells #[.int .i64 0, .int .i64 0] 86 (0, 0)) (by (with_reducible repeat (first | refine blk_drewN ?_ _ | refine blk_drew ?_ | refine blk_alloc ?_ _)); exact BK255.out)) : gb258 ≠ gb255)); clear BK255; clear HB; have BK255 := n0_; have HB := n1_; have BK258 := n2_; have GW258 := n3_; have GE258 := n4_; have NB255_258 := n5_; have NB258_255 := n6_; clear n0_ n1_ n2_ n3_ n4_ n5_ n6_; clear hb hbox hg; have hnb12 := NB258_255.out; have hnc12 := NB255_258.out; have hcz13_0 : w11.cell? ⟨gb258, 0, none⟩ = some (.int .i64 0) := (blk_cell BK258.out 0).trans rfl; have hcz13_1 : w11.cell? ⟨gb258, 1, none⟩ = some (.int .i64 0) := (blk_cell BK258.out 1).trans rfl; have hfz13_0 := blk_frozen BK258.out 0; have hfz13_1 := blk_frozen BK258.out 1; have hcz14_0 : w11.cell? ⟨gb255, 0, none⟩ = some (.int .i64 0) := (blk_cell BK255.out 0).trans rfl; have hcz14_1 : w11.cell? ⟨gb255, 1, none⟩ = some (.int .i64 0) := (blk_cell BK255.out 1).trans rfl; have hfz14_0 := blk_frozen BK255.out 0; have hfz14_1 := blk_frozen BK255.out 1))
      refine bodyPost_ret (results_ct rfl _ _ gb255 86 #[.int .i64 (wrap64 (t256 - 1373427)), .int .i64 t257] (0, 0) _ rfl (by (with_reducible repeat (first | refine blk_drewN ?_ _ | refine blk_drew ?_ | refine blk_alloc ?_ _)); refine blk_put (cs := #[.int .i64 (wrap64 (t256 - 1373427)), .int .i64 0]) ?_ 1 _ rfl; (with_reducible repeat (first | refine blk_drewN ?_ _ | refine blk_drew ?_ | refine blk_alloc ?_ _)); refine blk_put (cs := #[.int .i64 0, .int .i64 0]) ?_ 0 _ rfl; (with_reducible repeat (first | refine blk_drewN ?_ _ | refine blk_drew ?_ | refine blk_alloc ?_ _)); refine blk_far ?_ NB255_258.out _; (with_reducible repeat (first | refine blk_drewN ?_ _ | refine blk_drew ?_ | refine blk_alloc ?_ _)); refine blk_far ?_ NB255_258.out _; (with_reducible repeat (first | refine blk_drewN ?_ _ | refine blk_drew ?_ | refine blk_alloc ?_ _)); exact BK255.out) Tryd.underlying86 rfl (by kernel_rfl)) rfl ?_
      exact ⟨by first | rfl | (simp [errW_none, errW_some] <;> rfl) | (simp [*, errW_none, errW_some] <;> rfl), by repeat (first | (with_reducible first | exact HB.out | apply below_alloc | apply pw_below_drewN | apply below_drew1 | refine below_set ?_ GE255.out | refine below_set ?_ GE258.out) | exact HB.out)⟩

def almanackerref04_Of.j0 : Nat → Int → Int → Bool → Option (Int × Int × Int)
  | 0, _, _, _ => none
  | k + 1, x0, x1, x25 => if x25 = true then (some (0, 0, 3)) else ((almanackerref03_Before.f x0).bind fun bt262 => ((almanackerref04_Moon.f (wrap64 ((wrap64 (bt262.1 + x1)) - 1))).bind fun bt264 => (some (bt264.1, bt264.2.1, bt264.2.2))))
def almanackerref04_Of.f (k : Nat) (a0 : Int) (a1 : Int) : Option (Int × Int × Int) := (almanackerref03_In.f a0).bind fun bt260 => (if bt260.2 = 0 then (if a1 < 1 then (almanackerref04_Of.j0 k a0 a1 true) else (almanackerref04_Of.j0 k a0 a1 (decide (a1 > bt260.1)))) else (some (0, 0, bt260.2)))
set_option maxHeartbeats 8000000 in
set_option maxRecDepth 100000 in
theorem almanackerref04_Of.calls (k : Nat) (a0 : Int) (a1 : Int) (r1 : Int) (r2 : Int) (r3 : Int) (w : World) (h : almanackerref04_Of.f k a0 a1 = some (r1, r2, r3)) :
    Calls Tryd.prog 58 #[.int .i64 a0, .int .i64 a1] w fun e w' => e = .returned (.tuple #[.agg #[.int .i64 r1, .int .i64 r2], .int .i64 r3]) ∧ Below w.heap.size w w' := by
  have hu86 := Tryd.underlying86
  have HB := Aside0.mk (Below.refl w.heap.size w)
  have H : ((almanackerref03_In.f a0).bind fun bt260 => (if bt260.2 = 0 then (if a1 < 1 then (almanackerref04_Of.j0 k a0 a1 true) else (almanackerref04_Of.j0 k a0 a1 (decide (a1 > bt260.1)))) else (some (0, 0, bt260.2)))) = some (r1, r2, r3) := h
  clear h
  replace H := Option.bind_eq_some_iff.mp H
  obtain ⟨⟨t260, t261⟩, A30, H⟩ := H
  replace H : (if t261 = 0 then (if a1 < 1 then (almanackerref04_Of.j0 k a0 a1 true) else (almanackerref04_Of.j0 k a0 a1 (decide (a1 > t260)))) else (some (0, 0, t261))) = some (r1, r2, r3) := H
  have A3 := Aside0.mk A30
  clear A30
  by_cases c4 : t261 = 0
  · rw [if_pos c4] at H
    have c4b0 : (t261 == 0) = true := beq_iff_eq.mpr c4
    have c4b1 : (t261 != 0) = false := bne_eq_false_iff_eq.mpr c4
    clear c4
    have HC5 := Aside0.mk H
    clear H
    go_enter Tryd.func58, Tryd.ntmps58
    go_upto_region 4 with (first | ((with_reducible refine gate_dst (N := 4) rfl ?_); refine box_event ?hg (N := 4) ?hd (cs := #[.int .i64 0, .int .i64 0]) (t := 86) ?hr ?_; (case hd => rfl); (case hg => rfl); (case hr => first | (go_simp; done) | (go_simp; rfl)); intro gb259 hg w6 hbox hb; have n0_ := Aside0.mk (below_step (by repeat (first | (with_reducible first | exact HB.out | apply below_alloc | apply pw_below_drewN | apply below_drew1) | exact HB.out)) hb); have n1_ := Aside0.mk (hbox); have n2_ := Aside0.mk ((by rw [hg]; exact (below_size (by repeat (first | (with_reducible first | exact HB.out | apply below_alloc | apply pw_below_drewN | apply below_drew1) | exact HB.out))) : w.heap.size ≤ gb259)); have n3_ := Aside0.mk ((by rw [hg]; exact (below_size (by repeat (first | (with_reducible first | exact HB.out | apply below_alloc | apply pw_below_drewN | apply below_drew1) | exact HB.out))) : w.heap.size ≤ gb259)); clear HB; have HB := n0_; have BK259 := n1_; have GW259 := n2_; have GE259 := n3_; clear n0_ n1_ n2_ n3_; clear hb hbox hg) | ((with_reducible refine gate_callee (f := 89) rfl ?_); refine goesL_ (some 12) rfl rfl Tryd.func89 (by kernel_rfl) rfl #[.int .i64 a0] rfl (by (try simp only [List.map_toArray, List.map_cons, List.map_nil]); first | done | rfl | (simp only [List.length_drop, List.length_take]; rfl)) ?_; (with_reducible refine (almanackerref03_In.calls a0 t260 t261 _ A3.out).mono ?_); rintro e w' ⟨rfl, ⟨nd, rfl⟩⟩; refine ⟨_, rfl, ?_⟩))
    (try simp only [Act.put, List.setIfInBounds_toArray, List.set_cons_zero, List.set_cons_succ])
    go_cut [25] (fun v25 wc => ∃ (kq : Nat) (x25_4 : Bool), v25 = .bool x25_4 ∧ Aside0 (almanackerref04_Of.j0 kq a0 a1 x25_4 = some (r1, r2, r3)) ∧ Aside0 (kq ≤ k) ∧ Aside0 (wc.heap[gb259]? = some (.cells #[.int .i64 0, .int .i64 0] 86 (0, 0))) ∧ Aside0 (Below w.heap.size w wc))
    case first =>
      have H := HC5.out
      clear HC5
      by_cases c7 : a1 < 1
      · rw [if_pos c7] at H
        have c7b0 : decide (a1 < 1) = true := decide_eq_true c7
        clear c7
        (first | rw [c7b0] | (simp only [i64_w, i32_w]; rw [c7b0]) | skip)
        have H' := Aside0.mk H
        clear H
        go_wp2
        go_meet
        case rel => exact ⟨_, (true), (by first | rfl | (simp; done) | (simp [*]; done)), H', ⟨by first | omega | exact Nat.le_refl _⟩, ⟨by (with_reducible repeat (first | refine blk_drewN ?_ _ | refine blk_drew ?_ | refine blk_alloc ?_ _)); exact BK259.out⟩, ⟨by repeat (first | (with_reducible first | exact HB.out | apply below_alloc | apply pw_below_drewN | apply below_drew1 | refine below_set ?_ GE259.out) | exact HB.out)⟩⟩
      · rw [if_neg c7] at H
        have c7b0 : decide (a1 < 1) = false := decide_eq_false c7
        clear c7
        (first | rw [c7b0] | (simp only [i64_w, i32_w]; rw [c7b0]) | skip)
        have H' := Aside0.mk H
        clear H
        go_wp2
        go_meet
        case rel => exact ⟨_, (decide (a1 > t260)), (by first | rfl | (simp; done) | (simp [*]; done)), H', ⟨by first | omega | exact Nat.le_refl _⟩, ⟨by (with_reducible repeat (first | refine blk_drewN ?_ _ | refine blk_drew ?_ | refine blk_alloc ?_ _)); exact BK259.out⟩, ⟨by repeat (first | (with_reducible first | exact HB.out | apply below_alloc | apply pw_below_drewN | apply below_drew1 | refine below_set ?_ GE259.out) | exact HB.out)⟩⟩
    case rest =>
      clear HC5
      try clear p2
      try clear c4
      try clear c4b0
      try clear c4b1
      try clear c5
      try clear c7
      try clear c7b0
      obtain ⟨kq, x25_4, rfl, HA, HJ4, BK259, HB⟩ := hcut
      cases kq with
      | zero => exact absurd HA.out (by simp [almanackerref04_Of.j0])
      | succ kj4 =>
        have H := HA.out
        clear HA
        simp only [almanackerref04_Of.j0] at H
        by_cases c8 : x25_4 = true
        · subst c8
          have H1 : (some (0, 0, 3)) = some (r1, r2, r3) := by rw [if_pos rfl] at H; exact H
          clear H
          have H := H1
          clear H1
          simp only [Option.some.injEq, Prod.mk.injEq] at H
          obtain ⟨rfl, rfl, rfl⟩ := H
          have hcz9_0 : wc.cell? ⟨gb259, 0, none⟩ = some (.int .i64 0) := (blk_cell BK259.out 0).trans rfl
          have hcz9_1 : wc.cell? ⟨gb259, 1, none⟩ = some (.int .i64 0) := (blk_cell BK259.out 1).trans rfl
          have hfz9_0 := blk_frozen BK259.out 0
          have hfz9_1 := blk_frozen BK259.out 1
          go_wp2
          refine bodyPost_ret (results_ct rfl _ _ gb259 86 #[.int .i64 0, .int .i64 0] (0, 0) _ rfl (by (with_reducible repeat (first | refine blk_drewN ?_ _ | refine blk_drew ?_ | refine blk_alloc ?_ _)); refine blk_put (cs := #[.int .i64 0, .int .i64 0]) ?_ 1 _ rfl; (with_reducible repeat (first | refine blk_drewN ?_ _ | refine blk_drew ?_ | refine blk_alloc ?_ _)); refine blk_put (cs := #[.int .i64 0, .int .i64 0]) ?_ 0 _ rfl; (with_reducible repeat (first | refine blk_drewN ?_ _ | refine blk_drew ?_ | refine blk_alloc ?_ _)); exact BK259.out) Tryd.underlying86 rfl (by kernel_rfl)) rfl ?_
          exact ⟨by first | rfl | (simp [errW_none, errW_some] <;> rfl) | (simp [*, errW_none, errW_some] <;> rfl), by repeat (first | (with_reducible first | exact HB.out | apply below_alloc | apply pw_below_drewN | apply below_drew1 | refine below_set ?_ GE259.out) | exact HB.out)⟩
        · replace c8 := Bool.eq_false_iff.mpr c8
          subst c8
          have H1 : ((almanackerref03_Before.f a0).bind fun bt262 => ((almanackerref04_Moon.f (wrap64 ((wrap64 (bt262.1 + a1)) - 1))).bind fun bt264 => (some (bt264.1, bt264.2.1, bt264.2.2)))) = some (r1, r2, r3) := by rw [if_neg (show ¬ (false = true) by decide)] at H; exact H
          clear H
          have H := H1
          clear H1
          replace H := Option.bind_eq_some_iff.mp H
          obtain ⟨⟨t262, t263⟩, A100, H⟩ := H
          replace H : ((almanackerref04_Moon.f (wrap64 ((wrap64 (t262 + a1)) - 1))).bind fun bt264 => (some (bt264.1, bt264.2.1, bt264.2.2))) = some (r1, r2, r3) := H
          have A10 := Aside0.mk A100
          clear A100
          replace H := Option.bind_eq_some_iff.mp H
          obtain ⟨⟨t264, t265, t266⟩, A110, H⟩ := H
          replace H : (some (t264, t265, t266)) = some (r1, r2, r3) := H
          have A11 := Aside0.mk A110
          clear A110
          simp only [Option.some.injEq, Prod.mk.injEq] at H
          obtain ⟨rfl, rfl, rfl⟩ := H
          go_wp2_with (first | ((with_reducible refine gate_callee (f := 90) rfl ?_); refine goesL_ (some 29) rfl rfl Tryd.func90 (by kernel_rfl) rfl #[.int .i64 a0] rfl (by (try simp only [List.map_toArray, List.map_cons, List.map_nil]); first | done | rfl | (simp only [List.length_drop, List.length_take]; rfl)) ?_; (with_reducible refine (almanackerref03_Before.calls a0 t262 t263 _ A10.out).mono ?_); rintro e w' ⟨rfl, ⟨nd, rfl⟩⟩; refine ⟨_, rfl, ?_⟩; (try (rw [drewN_self wc]; generalize hq_ : World.drewN wc _ = wc; have n0_ : Aside0 (wc.heap[gb259]? = some (.cells #[.int .i64 0, .int .i64 0] 86 (0, 0))) := ⟨by rw [← hq_]; exact (by (with_reducible repeat (first | refine blk_drewN ?_ _ | refine blk_drew ?_ | refine blk_alloc ?_ _)); exact BK259.out)⟩; have n1_ : Aside0 (Below w.heap.size w wc) := ⟨by rw [← hq_]; exact (by repeat (first | (with_reducible first | exact HB.out | apply below_alloc | apply pw_below_drewN | apply below_drew1 | refine below_set ?_ GE259.out) | exact HB.out))⟩; clear BK259 HB hq_; have BK259 := n0_; have HB := n1_; clear n0_ n1_))) | ((with_reducible refine gate_callee (f := 91) rfl ?_); refine goesL_ (some 36) rfl rfl Tryd.func91 (by kernel_rfl) rfl #[.int .i64 (wrap64 ((wrap64 (t262 + a1)) - 1))] rfl (by (try simp only [List.map_toArray, List.map_cons, List.map_nil]); first | done | rfl | (simp only [List.length_drop, List.length_take]; rfl)) ?_; (with_reducible refine (almanackerref04_Moon.calls (wrap64 ((wrap64 (t262 + a1)) - 1)) t264 t265 t266 _ A11.out).mono ?_); rintro e w12 ⟨rfl, hb⟩; refine ⟨_, rfl, ?_⟩; have n0_ := Aside0.mk (blk_below (g := gb259) (o := .cells #[.int .i64 0, .int .i64 0] 86 (0, 0)) (by (with_reducible repeat (first | refine blk_drewN ?_ _ | refine blk_drew ?_ | refine blk_alloc ?_ _)); exact BK259.out) hb); have n1_ := Aside0.mk (below_step (by repeat (first | (with_reducible first | exact HB.out | apply below_alloc | apply pw_below_drewN | apply below_drew1 | refine below_set ?_ GE259.out) | exact HB.out)) hb); clear BK259; clear HB; have BK259 := n0_; have HB := n1_; clear n0_ n1_; (try clear hb); (try clear hb2); (try clear hk); (try clear hi); have hcz13_0 : w12.cell? ⟨gb259, 0, none⟩ = some (.int .i64 0) := (blk_cell BK259.out 0).trans rfl; have hcz13_1 : w12.cell? ⟨gb259, 1, none⟩ = some (.int .i64 0) := (blk_cell BK259.out 1).trans rfl; have hfz13_0 := blk_frozen BK259.out 0; have hfz13_1 := blk_frozen BK259.out 1))
          refine bodyPost_ret (results_ct rfl _ _ gb259 86 #[.int .i64 t264, .int .i64 t265] (0, 0) _ rfl (by (with_reducible repeat (first | refine blk_drewN ?_ _ | refine blk_drew ?_ | refine blk_alloc ?_ _)); refine blk_put (cs := #[.int .i64 t264, .int .i64 0]) ?_ 1 _ rfl; (with_reducible repeat (first | refine blk_drewN ?_ _ | refine blk_drew ?_ | refine blk_alloc ?_ _)); refine blk_put (cs := #[.int .i64 0, .int .i64 0]) ?_ 0 _ rfl; (with_reducible repeat (first | refine blk_drewN ?_ _ | refine blk_drew ?_ | refine blk_alloc ?_ _)); exact BK259.out) Tryd.underlying86 rfl (by kernel_rfl)) rfl ?_
          exact ⟨by first | rfl | (simp [errW_none, errW_some] <;> rfl) | (simp [*, errW_none, errW_some] <;> rfl), by repeat (first | (with_reducible first | exact HB.out | apply below_alloc | apply pw_below_drewN | apply below_drew1 | refine below_set ?_ GE259.out) | exact HB.out)⟩
  · rw [if_neg c4] at H
    have c4b0 : (t261 == 0) = false := beq_eq_false_iff_ne.mpr c4
    have c4b1 : (t261 != 0) = true := bne_iff_ne.mpr c4
    simp only [Option.some.injEq, Prod.mk.injEq] at H
    obtain ⟨rfl, rfl, rfl⟩ := H
    go_enter Tryd.func58, Tryd.ntmps58
    go_wp2_with (first | ((with_reducible refine gate_dst (N := 4) rfl ?_); refine box_event ?hg (N := 4) ?hd (cs := #[.int .i64 0, .int .i64 0]) (t := 86) ?hr ?_; (case hd => rfl); (case hg => rfl); (case hr => first | (go_simp; done) | (go_simp; rfl)); intro gb259 hg w14 hbox hb; have n0_ := Aside0.mk (below_step (by repeat (first | (with_reducible first | exact HB.out | apply below_alloc | apply pw_below_drewN | apply below_drew1) | exact HB.out)) hb); have n1_ := Aside0.mk (hbox); have n2_ := Aside0.mk ((by rw [hg]; exact (below_size (by repeat (first | (with_reducible first | exact HB.out | apply below_alloc | apply pw_below_drewN | apply below_drew1) | exact HB.out))) : w.heap.size ≤ gb259)); have n3_ := Aside0.mk ((by rw [hg]; exact (below_size (by repeat (first | (with_reducible first | exact HB.out | apply below_alloc | apply pw_below_drewN | apply below_drew1) | exact HB.out))) : w.heap.size ≤ gb259)); clear HB; have HB := n0_; have BK259 := n1_; have GW259 := n2_; have GE259 := n3_; clear n0_ n1_ n2_ n3_; clear hb hbox hg) | ((with_reducible refine gate_callee (f := 89) rfl ?_); refine goesL_ (some 12) rfl rfl Tryd.func89 (by kernel_rfl) rfl #[.int .i64 a0] rfl (by (try simp only [List.map_toArray, List.map_cons, List.map_nil]); first | done | rfl | (simp only [List.length_drop, List.length_take]; rfl)) ?_; (with_reducible refine (almanackerref03_In.calls a0 t260 t261 _ A3.out).mono ?_); rintro e w' ⟨rfl, ⟨nd, rfl⟩⟩; refine ⟨_, rfl, ?_⟩; (try (rw [drewN_self w14]; generalize hq_ : World.drewN w14 _ = w14; have n0_ : Aside0 (w14.heap[gb259]? = some (.cells #[.int .i64 0, .int .i64 0] 86 (0, 0))) := ⟨by rw [← hq_]; exact (by (with_reducible repeat (first | refine blk_drewN ?_ _ | refine blk_drew ?_ | refine blk_alloc ?_ _)); exact BK259.out)⟩; have n1_ : Aside0 (Below w.heap.size w w14) := ⟨by rw [← hq_]; exact (by repeat (first | (with_reducible first | exact HB.out | apply below_alloc | apply pw_below_drewN | apply below_drew1 | refine below_set ?_ GE259.out) | exact HB.out))⟩; clear BK259 HB hq_; have BK259 := n0_; have HB := n1_; clear n0_ n1_)); have hcz15_0 : w14.cell? ⟨gb259, 0, none⟩ = some (.int .i64 0) := (blk_cell BK259.out 0).trans rfl; have hcz15_1 : w14.cell? ⟨gb259, 1, none⟩ = some (.int .i64 0) := (blk_cell BK259.out 1).trans rfl; have hfz15_0 := blk_frozen BK259.out 0; have hfz15_1 := blk_frozen BK259.out 1))
    refine bodyPost_ret (results_ct rfl _ _ gb259 86 #[.int .i64 0, .int .i64 0] (0, 0) _ rfl (by (with_reducible repeat (first | refine blk_drewN ?_ _ | refine blk_drew ?_ | refine blk_alloc ?_ _)); refine blk_put (cs := #[.int .i64 0, .int .i64 0]) ?_ 1 _ rfl; (with_reducible repeat (first | refine blk_drewN ?_ _ | refine blk_drew ?_ | refine blk_alloc ?_ _)); refine blk_put (cs := #[.int .i64 0, .int .i64 0]) ?_ 0 _ rfl; (with_reducible repeat (first | refine blk_drewN ?_ _ | refine blk_drew ?_ | refine blk_alloc ?_ _)); exact BK259.out) Tryd.underlying86 rfl (by kernel_rfl)) rfl ?_
    exact ⟨by first | rfl | (simp [errW_none, errW_some] <;> rfl) | (simp [*, errW_none, errW_some] <;> rfl), by repeat (first | (with_reducible first | exact HB.out | apply below_alloc | apply pw_below_drewN | apply below_drew1 | refine below_set ?_ GE259.out) | exact HB.out)⟩

end Go.Proofs.YtflpddhoiafhcaaDoor.G
end

section
-- Written by wip/hprint.py of this repo (holes typed by hand, all else by a program) over the seat YtflpddhoiafhcaaDoor.
namespace Go.Proofs.YtflpddhoiafhcaaDoor.G
open Go.Proofs.YtflpddhoiafhcaaDoor.H
open Go.RowKit Go.Proofs.YtflpddhoiafhcaaDoorW.PrintWords Go.Proofs.YtflpddhoiafhcaaDoorW.PrintLast Go.Proofs.YtflpddhoiafhcaaDoorW.PrintMore
attribute [local go_sem] max2_int min2_int max_two min_two max_three min_three max_four min_four   -- for this text's walks alone
set_option linter.unusedVariables false
set_option linter.unusedSimpArgs false

mutual
def almanackerref05_Delay.j0 : Nat → Bool → Int → Int → Bool → Int → Int → Option (Int)
  | 0, _, _, _, _, _, _ => none
  | k + 1, x2, x7, x8, x25, x268000, x268001 => if x25 = true then (if (Int.tmod (wrap64 (x7 + 1)) 7) = 0 then (some (1 + 1)) else (if (Int.tmod (wrap64 (x7 + 1)) 7) = 3 then (some (1 + 1)) else (if (Int.tmod (wrap64 (x7 + 1)) 7) = 5 then (some (1 + 1)) else (some 1)))) else (if x2 = true then (if x7 = 1 then (almanackerref05_Delay.j1 k x7 x8 (decide (x268001 ≥ 16789))) else (almanackerref05_Delay.j1 k x7 x8 false)) else (almanackerref05_Delay.j1 k x7 x8 false))
def almanackerref05_Delay.j1 : Nat → Int → Int → Bool → Option (Int)
  | 0, _, _, _ => none
  | k + 1, x7, x8, x35 => if x35 = true then (if (Int.tmod (wrap64 (x7 + 1)) 7) = 0 then (some (1 + 1)) else (if (Int.tmod (wrap64 (x7 + 1)) 7) = 3 then (some (1 + 1)) else (if (Int.tmod (wrap64 (x7 + 1)) 7) = 5 then (some (1 + 1)) else (some 1)))) else (if (Int.tmod (wrap64 (x7 + x8)) 7) = 0 then (some (wrap64 (x8 + 1))) else (if (Int.tmod (wrap64 (x7 + x8)) 7) = 3 then (some (wrap64 (x8 + 1))) else (if (Int.tmod (wrap64 (x7 + x8)) 7) = 5 then (some (wrap64 (x8 + 1))) else (some x8))))
end
def almanackerref05_Delay.f (k : Nat) (a0_0 : Int) (a0_1 : Int) (a1 : Bool) (a2 : Bool) : Option (Int) := (almanackerref04_Weekday.f a0_0).bind fun t268 => (if a0_1 ≥ 19440 then (if (Int.tmod (wrap64 (t268 + 1)) 7) = 0 then (some (1 + 1)) else (if (Int.tmod (wrap64 (t268 + 1)) 7) = 3 then (some (1 + 1)) else (if (Int.tmod (wrap64 (t268 + 1)) 7) = 5 then (some (1 + 1)) else (some 1)))) else (if a1 = true then (almanackerref05_Delay.j0 k a2 t268 0 false a0_0 a0_1) else (if t268 = 2 then (almanackerref05_Delay.j0 k a2 t268 0 (decide (a0_1 ≥ 9924)) a0_0 a0_1) else (almanackerref05_Delay.j0 k a2 t268 0 false a0_0 a0_1))))
set_option maxHeartbeats 8000000 in
set_option maxRecDepth 100000 in
theorem almanackerref05_Delay.calls (k : Nat) (a0_0 : Int) (a0_1 : Int) (a1 : Bool) (a2 : Bool) (r : Int) (w : World) (h : almanackerref05_Delay.f k a0_0 a0_1 a1 a2 = some r) :
    Calls Tryd.prog 59 #[.agg #[.int .i64 a0_0, .int .i64 a0_1], .bool a1, .bool a2] w fun e w' => e = .returned (.int .i64 r) ∧ Below w.heap.size w w' := by
  have hu86 := Tryd.underlying86
  have HB := Aside0.mk (Below.refl w.heap.size w)
  have H : ((almanackerref04_Weekday.f a0_0).bind fun t268 => (if a0_1 ≥ 19440 then (if (Int.tmod (wrap64 (t268 + 1)) 7) = 0 then (some (1 + 1)) else (if (Int.tmod (wrap64 (t268 + 1)) 7) = 3 then (some (1 + 1)) else (if (Int.tmod (wrap64 (t268 + 1)) 7) = 5 then (some (1 + 1)) else (some 1)))) else (if a1 = true then (almanackerref05_Delay.j0 k a2 t268 0 false a0_0 a0_1) else (if t268 = 2 then (almanackerref05_Delay.j0 k a2 t268 0 (decide (a0_1 ≥ 9924)) a0_0 a0_1) else (almanackerref05_Delay.j0 k a2 t268 0 false a0_0 a0_1))))) = some r := h
  clear h
  replace H := Option.bind_eq_some_iff.mp H
  obtain ⟨t268, A40, H⟩ := H
  replace H : (if a0_1 ≥ 19440 then (if (Int.tmod (wrap64 (t268 + 1)) 7) = 0 then (some (1 + 1)) else (if (Int.tmod (wrap64 (t268 + 1)) 7) = 3 then (some (1 + 1)) else (if (Int.tmod (wrap64 (t268 + 1)) 7) = 5 then (some (1 + 1)) else (some 1)))) else (if a1 = true then (almanackerref05_Delay.j0 k a2 t268 0 false a0_0 a0_1) else (if t268 = 2 then (almanackerref05_Delay.j0 k a2 t268 0 (decide (a0_1 ≥ 9924)) a0_0 a0_1) else (almanackerref05_Delay.j0 k a2 t268 0 false a0_0 a0_1)))) = some r := H
  have A4 := Aside0.mk A40
  clear A40
  by_cases c5 : a0_1 ≥ 19440
  · rw [if_pos c5] at H
    have c5b0 : decide (19440 ≤ a0_1) = true := decide_eq_true c5
    clear c5
    by_cases c6 : (Int.tmod (wrap64 (t268 + 1)) 7) = 0
    · rw [if_pos c6] at H
      have c6b0 : ((Int.tmod (wrap64 (t268 + 1)) 7) == 0) = true := beq_iff_eq.mpr c6
      have c6b1 : ((Int.tmod (wrap64 (t268 + 1)) 7) != 0) = false := bne_eq_false_iff_eq.mpr c6
      clear c6
      obtain rfl := Option.some.inj H
      go_enter Tryd.func59, Tryd.ntmps59
      go_wp2_with (first | ((with_reducible refine gate_dst (N := 3) rfl ?_); refine box_event ?hg (N := 3) ?hd (cs := #[.int .i64 a0_0, .int .i64 a0_1]) (t := 86) ?hr ?_; (case hd => rfl); (case hg => rfl); (case hr => first | (go_simp; done) | (go_simp; rfl)); intro gb267 hg w7 hbox hb; have n0_ := Aside0.mk (below_step (by repeat (first | (with_reducible first | exact HB.out | apply below_alloc | apply pw_below_drewN | apply below_drew1) | exact HB.out)) hb); have n1_ := Aside0.mk (hbox); have n2_ := Aside0.mk ((by rw [hg]; exact (below_size (by repeat (first | (with_reducible first | exact HB.out | apply below_alloc | apply pw_below_drewN | apply below_drew1) | exact HB.out))) : w.heap.size ≤ gb267)); have n3_ := Aside0.mk ((by rw [hg]; exact (below_size (by repeat (first | (with_reducible first | exact HB.out | apply below_alloc | apply pw_below_drewN | apply below_drew1) | exact HB.out))) : w.heap.size ≤ gb267)); clear HB; have HB := n0_; have BK267 := n1_; have GW267 := n2_; have GE267 := n3_; clear n0_ n1_ n2_ n3_; clear hb hbox hg; have hcz8_0 : w7.cell? ⟨gb267, 0, none⟩ = some (.int .i64 a0_0) := (blk_cell BK267.out 0).trans rfl; have hcz8_1 : w7.cell? ⟨gb267, 1, none⟩ = some (.int .i64 a0_1) := (blk_cell BK267.out 1).trans rfl; have hfz8_0 := blk_frozen BK267.out 0; have hfz8_1 := blk_frozen BK267.out 1) | ((with_reducible refine gate_callee (f := 32) rfl ?_); refine goesL_ (some 11) rfl rfl Tryd.func32 (by kernel_rfl) rfl #[.int .i64 a0_0] rfl (by (try simp only [List.map_toArray, List.map_cons, List.map_nil]); first | done | rfl | (simp only [List.length_drop, List.length_take]; rfl)) ?_; (with_reducible refine (almanackerref04_Weekday.calls a0_0 t268 _ A4.out).mono ?_); rintro e w' ⟨rfl, ⟨nd, rfl⟩⟩; refine ⟨_, rfl, ?_⟩))
      go_ret
      exact ⟨by first | rfl | (simp [errW_none, errW_some] <;> rfl) | (simp [*, errW_none, errW_some] <;> rfl), by repeat (first | (with_reducible first | exact HB.out | apply below_alloc | apply pw_below_drewN | apply below_drew1 | refine below_set ?_ GE267.out) | exact HB.out)⟩
    · rw [if_neg c6] at H
      have c6b0 : ((Int.tmod (wrap64 (t268 + 1)) 7) == 0) = false := beq_eq_false_iff_ne.mpr c6
      have c6b1 : ((Int.tmod (wrap64 (t268 + 1)) 7) != 0) = true := bne_iff_ne.mpr c6
      by_cases c9 : (Int.tmod (wrap64 (t268 + 1)) 7) = 3
      · rw [if_pos c9] at H
        have c9b0 : ((Int.tmod (wrap64 (t268 + 1)) 7) == 3) = true := beq_iff_eq.mpr c9
        have c9b1 : ((Int.tmod (wrap64 (t268 + 1)) 7) != 3) = false := bne_eq_false_iff_eq.mpr c9
        clear c9
        obtain rfl := Option.some.inj H
        go_enter Tryd.func59, Tryd.ntmps59
        go_wp2_with (first | ((with_reducible refine gate_dst (N := 3) rfl ?_); refine box_event ?hg (N := 3) ?hd (cs := #[.int .i64 a0_0, .int .i64 a0_1]) (t := 86) ?hr ?_; (case hd => rfl); (case hg => rfl); (case hr => first | (go_simp; done) | (go_simp; rfl)); intro gb267 hg w10 hbox hb; have n0_ := Aside0.mk (below_step (by repeat (first | (with_reducible first | exact HB.out | apply below_alloc | apply pw_below_drewN | apply below_drew1) | exact HB.out)) hb); have n1_ := Aside0.mk (hbox); have n2_ := Aside0.mk ((by rw [hg]; exact (below_size (by repeat (first | (with_reducible first | exact HB.out | apply below_alloc | apply pw_below_drewN | apply below_drew1) | exact HB.out))) : w.heap.size ≤ gb267)); have n3_ := Aside0.mk ((by rw [hg]; exact (below_size (by repeat (first | (with_reducible first | exact HB.out | apply below_alloc | apply pw_below_drewN | apply below_drew1) | exact HB.out))) : w.heap.size ≤ gb267)); clear HB; have HB := n0_; have BK267 := n1_; have GW267 := n2_; have GE267 := n3_; clear n0_ n1_ n2_ n3_; clear hb hbox hg; have hcz11_0 : w10.cell? ⟨gb267, 0, none⟩ = some (.int .i64 a0_0) := (blk_cell BK267.out 0).trans rfl; have hcz11_1 : w10.cell? ⟨gb267, 1, none⟩ = some (.int .i64 a0_1) := (blk_cell BK267.out 1).trans rfl; have hfz11_0 := blk_frozen BK267.out 0; have hfz11_1 := blk_frozen BK267.out 1) | ((with_reducible refine gate_callee (f := 32) rfl ?_); refine goesL_ (some 11) rfl rfl Tryd.func32 (by kernel_rfl) rfl #[.int .i64 a0_0] rfl (by (try simp only [List.map_toArray, List.map_cons, List.map_nil]); first | done | rfl | (simp only [List.length_drop, List.length_take]; rfl)) ?_; (with_reducible refine (almanackerref04_Weekday.calls a0_0 t268 _ A4.out).mono ?_); rintro e w' ⟨rfl, ⟨nd, rfl⟩⟩; refine ⟨_, rfl, ?_⟩))
        go_ret
        exact ⟨by first | rfl | (simp [errW_none, errW_some] <;> rfl) | (simp [*, errW_none, errW_some] <;> rfl), by repeat (first | (with_reducible first | exact HB.out | apply below_alloc | apply pw_below_drewN | apply below_drew1 | refine below_set ?_ GE267.out) | exact HB.out)⟩
      · rw [if_neg c9] at H
        have c9b0 : ((Int.tmod (wrap64 (t268 + 1)) 7) == 3) = false := beq_eq_false_iff_ne.mpr c9
        have c9b1 : ((Int.tmod (wrap64 (t268 + 1)) 7) != 3) = true := bne_iff_ne.mpr c9
        by_cases c12 : (Int.tmod (wrap64 (t268 + 1)) 7) = 5
        · rw [if_pos c12] at H
          have c12b0 : ((Int.tmod (wrap64 (t268 + 1)) 7) == 5) = true := beq_iff_eq.mpr c12
          have c12b1 : ((Int.tmod (wrap64 (t268 + 1)) 7) != 5) = false := bne_eq_false_iff_eq.mpr c12
          clear c12
          obtain rfl := Option.some.inj H
          go_enter Tryd.func59, Tryd.ntmps59
          go_wp2_with (first | ((with_reducible refine gate_dst (N := 3) rfl ?_); refine box_event ?hg (N := 3) ?hd (cs := #[.int .i64 a0_0, .int .i64 a0_1]) (t := 86) ?hr ?_; (case hd => rfl); (case hg => rfl); (case hr => first | (go_simp; done) | (go_simp; rfl)); intro gb267 hg w13 hbox hb; have n0_ := Aside0.mk (below_step (by repeat (first | (with_reducible first | exact HB.out | apply below_alloc | apply pw_below_drewN | apply below_drew1) | exact HB.out)) hb); have n1_ := Aside0.mk (hbox); have n2_ := Aside0.mk ((by rw [hg]; exact (below_size (by repeat (first | (with_reducible first | exact HB.out | apply below_alloc | apply pw_below_drewN | apply below_drew1) | exact HB.out))) : w.heap.size ≤ gb267)); have n3_ := Aside0.mk ((by rw [hg]; exact (below_size (by repeat (first | (with_reducible first | exact HB.out | apply below_alloc | apply pw_below_drewN | apply below_drew1) | exact HB.out))) : w.heap.size ≤ gb267)); clear HB; have HB := n0_; have BK267 := n1_; have GW267 := n2_; have GE267 := n3_; clear n0_ n1_ n2_ n3_; clear hb hbox hg; have hcz14_0 : w13.cell? ⟨gb267, 0, none⟩ = some (.int .i64 a0_0) := (blk_cell BK267.out 0).trans rfl; have hcz14_1 : w13.cell? ⟨gb267, 1, none⟩ = some (.int .i64 a0_1) := (blk_cell BK267.out 1).trans rfl; have hfz14_0 := blk_frozen BK267.out 0; have hfz14_1 := blk_frozen BK267.out 1) | ((with_reducible refine gate_callee (f := 32) rfl ?_); refine goesL_ (some 11) rfl rfl Tryd.func32 (by kernel_rfl) rfl #[.int .i64 a0_0] rfl (by (try simp only [List.map_toArray, List.map_cons, List.map_nil]); first | done | rfl | (simp only [List.length_drop, List.length_take]; rfl)) ?_; (with_reducible refine (almanackerref04_Weekday.calls a0_0 t268 _ A4.out).mono ?_); rintro e w' ⟨rfl, ⟨nd, rfl⟩⟩; refine ⟨_, rfl, ?_⟩))
          go_ret
          exact ⟨by first | rfl | (simp [errW_none, errW_some] <;> rfl) | (simp [*, errW_none, errW_some] <;> rfl), by repeat (first | (with_reducible first | exact HB.out | apply below_alloc | apply pw_below_drewN | apply below_drew1 | refine below_set ?_ GE267.out) | exact HB.out)⟩
        · rw [if_neg c12] at H
          have c12b0 : ((Int.tmod (wrap64 (t268 + 1)) 7) == 5) = false := beq_eq_false_iff_ne.mpr c12
          have c12b1 : ((Int.tmod (wrap64 (t268 + 1)) 7) != 5) = true := bne_iff_ne.mpr c12
          obtain rfl := Option.some.inj H
          go_enter Tryd.func59, Tryd.ntmps59
          go_wp2_with (first | ((with_reducible refine gate_dst (N := 3) rfl ?_); refine box_event ?hg (N := 3) ?hd (cs := #[.int .i64 a0_0, .int .i64 a0_1]) (t := 86) ?hr ?_; (case hd => rfl); (case hg => rfl); (case hr => first | (go_simp; done) | (go_simp; rfl)); intro gb267 hg w15 hbox hb; have n0_ := Aside0.mk (below_step (by repeat (first | (with_reducible first | exact HB.out | apply below_alloc | apply pw_below_drewN | apply below_drew1) | exact HB.out)) hb); have n1_ := Aside0.mk (hbox); have n2_ := Aside0.mk ((by rw [hg]; exact (below_size (by repeat (first | (with_reducible first | exact HB.out | apply below_alloc | apply pw_below_drewN | apply below_drew1) | exact HB.out))) : w.heap.size ≤ gb267)); have n3_ := Aside0.mk ((by rw [hg]; exact (below_size (by repeat (first | (with_reducible first | exact HB.out | apply below_alloc | apply pw_below_drewN | apply below_drew1) | exact HB.out))) : w.heap.size ≤ gb267)); clear HB; have HB := n0_; have BK267 := n1_; have GW267 := n2_; have GE267 := n3_; clear n0_ n1_ n2_ n3_; clear hb hbox hg; have hcz16_0 : w15.cell? ⟨gb267, 0, none⟩ = some (.int .i64 a0_0) := (blk_cell BK267.out 0).trans rfl; have hcz16_1 : w15.cell? ⟨gb267, 1, none⟩ = some (.int .i64 a0_1) := (blk_cell BK267.out 1).trans rfl; have hfz16_0 := blk_frozen BK267.out 0; have hfz16_1 := blk_frozen BK267.out 1) | ((with_reducible refine gate_callee (f := 32) rfl ?_); refine goesL_ (some 11) rfl rfl Tryd.func32 (by kernel_rfl) rfl #[.int .i64 a0_0] rfl (by (try simp only [List.map_toArray, List.map_cons, List.map_nil]); first | done | rfl | (simp only [List.length_drop, List.length_take]; rfl)) ?_; (with_reducible refine (almanackerref04_Weekday.calls a0_0 t268 _ A4.out).mono ?_); rintro e w' ⟨rfl, ⟨nd, rfl⟩⟩; refine ⟨_, rfl, ?_⟩))
          go_ret
          exact ⟨by first | rfl | (simp [errW_none, errW_some] <;> rfl) | (simp [*, errW_none, errW_some] <;> rfl), by repeat (first | (with_reducible first | exact HB.out | apply below_alloc | apply pw_below_drewN | apply below_drew1 | refine below_set ?_ GE267.out) | exact HB.out)⟩
  · rw [if_neg c5] at H
    have c5b0 : decide (19440 ≤ a0_1) = false := decide_eq_false c5
    clear c5
    have HC17 := Aside0.mk H
    clear H
    go_enter Tryd.func59, Tryd.ntmps59
    go_upto_region 5 with (first | ((with_reducible refine gate_dst (N := 3) rfl ?_); refine box_event ?hg (N := 3) ?hd (cs := #[.int .i64 a0_0, .int .i64 a0_1]) (t := 86) ?hr ?_; (case hd => rfl); (case hg => rfl); (case hr => first | (go_simp; done) | (go_simp; rfl)); intro gb267 hg w18 hbox hb; have n0_ := Aside0.mk (below_step (by repeat (first | (with_reducible first | exact HB.out | apply below_alloc | apply pw_below_drewN | apply below_drew1) | exact HB.out)) hb); have n1_ := Aside0.mk (hbox); have n2_ := Aside0.mk ((by rw [hg]; exact (below_size (by repeat (first | (with_reducible first | exact HB.out | apply below_alloc | apply pw_below_drewN | apply below_drew1) | exact HB.out))) : w.heap.size ≤ gb267)); have n3_ := Aside0.mk ((by rw [hg]; exact (below_size (by repeat (first | (with_reducible first | exact HB.out | apply below_alloc | apply pw_below_drewN | apply below_drew1) | exact HB.out))) : w.heap.size ≤ gb267)); clear HB; have HB := n0_; have BK267 := n1_; have GW267 := n2_; have GE267 := n3_; clear n0_ n1_ n2_ n3_; clear hb hbox hg; have hcz19_0 : w18.cell? ⟨gb267, 0, none⟩ = some (.int .i64 a0_0) := (blk_cell BK267.out 0).trans rfl; have hcz19_1 : w18.cell? ⟨gb267, 1, none⟩ = some (.int .i64 a0_1) := (blk_cell BK267.out 1).trans rfl; have hfz19_0 := blk_frozen BK267.out 0; have hfz19_1 := blk_frozen BK267.out 1) | ((with_reducible refine gate_callee (f := 32) rfl ?_); refine goesL_ (some 11) rfl rfl Tryd.func32 (by kernel_rfl) rfl #[.int .i64 a0_0] rfl (by (try simp only [List.map_toArray, List.map_cons, List.map_nil]); first | done | rfl | (simp only [List.length_drop, List.length_take]; rfl)) ?_; (with_reducible refine (almanackerref04_Weekday.calls a0_0 t268 _ A4.out).mono ?_); rintro e w' ⟨rfl, ⟨nd, rfl⟩⟩; refine ⟨_, rfl, ?_⟩))
    (try simp only [Act.put, List.setIfInBounds_toArray, List.set_cons_zero, List.set_cons_succ])
    go_cut [25] (fun v25 wc => ∃ (kq : Nat) (x25_16 : Bool), v25 = .bool x25_16 ∧ Aside0 (almanackerref05_Delay.j0 kq a2 t268 0 x25_16 a0_0 a0_1 = some r) ∧ Aside0 (kq ≤ k) ∧ Aside0 (wc.heap[gb267]? = some (.cells #[.int .i64 a0_0, .int .i64 a0_1] 86 (0, 0))) ∧ Aside0 (Below w.heap.size w wc))
    case first =>
      have H := HC17.out
      clear HC17
      by_cases c20 : a1 = true
      · subst c20
        have H1 : (almanackerref05_Delay.j0 k a2 t268 0 false a0_0 a0_1) = some r := by rw [if_pos rfl] at H; exact H
        clear H
        have H := H1
        clear H1
        have H' := Aside0.mk H
        clear H
        go_wp2
        go_meet
        case rel => exact ⟨_, (false), (by first | rfl | (simp; done) | (simp [*]; done)), H', ⟨by first | omega | exact Nat.le_refl _⟩, ⟨by (with_reducible repeat (first | refine blk_drewN ?_ _ | refine blk_drew ?_ | refine blk_alloc ?_ _)); exact BK267.out⟩, ⟨by repeat (first | (with_reducible first | exact HB.out | apply below_alloc | apply pw_below_drewN | apply below_drew1 | refine below_set ?_ GE267.out) | exact HB.out)⟩⟩
      · replace c20 := Bool.eq_false_iff.mpr c20
        subst c20
        have H1 : (if t268 = 2 then (almanackerref05_Delay.j0 k a2 t268 0 (decide (a0_1 ≥ 9924)) a0_0 a0_1) else (almanackerref05_Delay.j0 k a2 t268 0 false a0_0 a0_1)) = some r := by rw [if_neg (show ¬ (false = true) by decide)] at H; exact H
        clear H
        have H := H1
        clear H1
        by_cases c21 : t268 = 2
        · rw [if_pos c21] at H
          have c21b0 : (t268 == 2) = true := beq_iff_eq.mpr c21
          have c21b1 : (t268 != 2) = false := bne_eq_false_iff_eq.mpr c21
          clear c21
          (first | rw [c21b0] | (simp only [i64_w, i32_w]; rw [c21b0]) | skip)
          have H' := Aside0.mk H
          clear H
          have hcz22_0 : w18.cell? ⟨gb267, 0, none⟩ = some (.int .i64 a0_0) := (blk_cell BK267.out 0).trans rfl
          have hcz22_1 : w18.cell? ⟨gb267, 1, none⟩ = some (.int .i64 a0_1) := (blk_cell BK267.out 1).trans rfl
          have hfz22_0 := blk_frozen BK267.out 0
          have hfz22_1 := blk_frozen BK267.out 1
          go_wp2
          go_meet
          case rel => exact ⟨_, (decide (a0_1 ≥ 9924)), (by first | rfl | (simp; done) | (simp [*]; done)), H', ⟨by first | omega | exact Nat.le_refl _⟩, ⟨by (with_reducible repeat (first | refine blk_drewN ?_ _ | refine blk_drew ?_ | refine blk_alloc ?_ _)); exact BK267.out⟩, ⟨by repeat (first | (with_reducible first | exact HB.out | apply below_alloc | apply pw_below_drewN | apply below_drew1 | refine below_set ?_ GE267.out) | exact HB.out)⟩⟩
        · rw [if_neg c21] at H
          have c21b0 : (t268 == 2) = false := beq_eq_false_iff_ne.mpr c21
          have c21b1 : (t268 != 2) = true := bne_iff_ne.mpr c21
          (first | rw [c21b0] | (simp only [i64_w, i32_w]; rw [c21b0]) | skip)
          have H' := Aside0.mk H
          clear H
          go_wp2
          go_meet
          case rel => exact ⟨_, (false), (by first | rfl | (simp; done) | (simp [*]; done)), H', ⟨by first | omega | exact Nat.le_refl _⟩, ⟨by (with_reducible repeat (first | refine blk_drewN ?_ _ | refine blk_drew ?_ | refine blk_alloc ?_ _)); exact BK267.out⟩, ⟨by repeat (first | (with_reducible first | exact HB.out | apply below_alloc | apply pw_below_drewN | apply below_drew1 | refine below_set ?_ GE267.out) | exact HB.out)⟩⟩
    case rest =>
      clear HC17
      try clear c1
      try clear c2
      try clear p2
      try clear c3
      try clear c5
      try clear c5b0
      try clear c6
      try clear c6b0
      try clear c6b1
      try clear p6
      try clear c9
      try clear c9b0
      try clear c9b1
      try clear c12
      try clear c12b0
      try clear c12b1
      try clear c20
      try clear c21
      try clear c21b0
      try clear c21b1
      try clear hcz11_0
      try clear hcz11_1
      try clear hcz14_0
      try clear hcz14_1
      try clear hcz16_0
      try clear hcz16_1
      try clear hcz19_0
      try clear hcz19_1
      try clear hcz22_0
      try clear hcz22_1
      try clear hcz8_0
      try clear hcz8_1
      try clear hfz11_0
      try clear hfz11_1
      try clear hfz14_0
      try clear hfz14_1
      try clear hfz16_0
      try clear hfz16_1
      try clear hfz19_0
      try clear hfz19_1
      try clear hfz22_0
      try clear hfz22_1
      try clear hfz8_0
      try clear hfz8_1
      obtain ⟨kq, x25_16, rfl, HA, HJ16, BK267, HB⟩ := hcut
      cases kq with
      | zero => exact absurd HA.out (by simp [almanackerref05_Delay.j0])
      | succ kj16 =>
        have H := HA.out
        clear HA
        simp only [almanackerref05_Delay.j0] at H
        by_cases c23 : x25_16 = true
        · subst c23
          have H1 : (if (Int.tmod (wrap64 (t268 + 1)) 7) = 0 then (some (1 + 1)) else (if (Int.tmod (wrap64 (t268 + 1)) 7) = 3 then (some (1 + 1)) else (if (Int.tmod (wrap64 (t268 + 1)) 7) = 5 then (some (1 + 1)) else (some 1)))) = some r := by rw [if_pos rfl] at H; exact H
          clear H
          have H := H1
          clear H1
          by_cases c24 : (Int.tmod (wrap64 (t268 + 1)) 7) = 0
          · rw [if_pos c24] at H
            have c24b0 : ((Int.tmod (wrap64 (t268 + 1)) 7) == 0) = true := beq_iff_eq.mpr c24
            have c24b1 : ((Int.tmod (wrap64 (t268 + 1)) 7) != 0) = false := bne_eq_false_iff_eq.mpr c24
            clear c24
            obtain rfl := Option.some.inj H
            go_wp2
            go_ret
            exact ⟨by first | rfl | (simp [errW_none, errW_some] <;> rfl) | (simp [*, errW_none, errW_some] <;> rfl), by repeat (first | (with_reducible first | exact HB.out | apply below_alloc | apply pw_below_drewN | apply below_drew1 | refine below_set ?_ GE267.out) | exact HB.out)⟩
          · rw [if_neg c24] at H
            have c24b0 : ((Int.tmod (wrap64 (t268 + 1)) 7) == 0) = false := beq_eq_false_iff_ne.mpr c24
            have c24b1 : ((Int.tmod (wrap64 (t268 + 1)) 7) != 0) = true := bne_iff_ne.mpr c24
            by_cases c25 : (Int.tmod (wrap64 (t268 + 1)) 7) = 3
            · rw [if_pos c25] at H
              have c25b0 : ((Int.tmod (wrap64 (t268 + 1)) 7) == 3) = true := beq_iff_eq.mpr c25
              have c25b1 : ((Int.tmod (wrap64 (t268 + 1)) 7) != 3) = false := bne_eq_false_iff_eq.mpr c25
              clear c25
              obtain rfl := Option.some.inj H
              go_wp2
              go_ret
              exact ⟨by first | rfl | (simp [errW_none, errW_some] <;> rfl) | (simp [*, errW_none, errW_some] <;> rfl), by repeat (first | (with_reducible first | exact HB.out | apply below_alloc | apply pw_below_drewN | apply below_drew1 | refine below_set ?_ GE267.out) | exact HB.out)⟩
            · rw [if_neg c25] at H
              have c25b0 : ((Int.tmod (wrap64 (t268 + 1)) 7) == 3) = false := beq_eq_false_iff_ne.mpr c25
              have c25b1 : ((Int.tmod (wrap64 (t268 + 1)) 7) != 3) = true := bne_iff_ne.mpr c25
              by_cases c26 : (Int.tmod (wrap64 (t268 + 1)) 7) = 5
              · rw [if_pos c26] at H
                have c26b0 : ((Int.tmod (wrap64 (t268 + 1)) 7) == 5) = true := beq_iff_eq.mpr c26
                have c26b1 : ((Int.tmod (wrap64 (t268 + 1)) 7) != 5) = false := bne_eq_false_iff_eq.mpr c26
                clear c26
                obtain rfl := Option.some.inj H
                go_wp2
                go_ret
                exact ⟨by first | rfl | (simp [errW_none, errW_some] <;> rfl) | (simp [*, errW_none, errW_some] <;> rfl), by repeat (first | (with_reducible first | exact HB.out | apply below_alloc | apply pw_below_drewN | apply below_drew1 | refine below_set ?_ GE267.out) | exact HB.out)⟩
              · rw [if_neg c26] at H
                have c26b0 : ((Int.tmod (wrap64 (t268 + 1)) 7) == 5) = false := beq_eq_false_iff_ne.mpr c26
                have c26b1 : ((Int.tmod (wrap64 (t268 + 1)) 7) != 5) = true := bne_iff_ne.mpr c26
                obtain rfl := Option.some.inj H
                go_wp2
                go_ret
                exact ⟨by first | rfl | (simp [errW_none, errW_some] <;> rfl) | (simp [*, errW_none, errW_some] <;> rfl), by repeat (first | (with_reducible first | exact HB.out | apply below_alloc | apply pw_below_drewN | apply below_drew1 | refine below_set ?_ GE267.out) | exact HB.out)⟩
        · replace c23 := Bool.eq_false_iff.mpr c23
          subst c23
          have H1 : (if a2 = true then (if t268 = 1 then (almanackerref05_Delay.j1 kj16 t268 0 (decide (a0_1 ≥ 16789))) else (almanackerref05_Delay.j1 kj16 t268 0 false)) else (almanackerref05_Delay.j1 kj16 t268 0 false)) = some r := by rw [if_neg (show ¬ (false = true) by decide)] at H; exact H
          clear H
          have H := H1
          clear H1
          have HC27 := Aside0.mk H
          clear H
          go_upto_region 7 with (fail)
          go_cut [35] (fun v35 wc => ∃ (kq : Nat) (x35_26 : Bool), v35 = .bool x35_26 ∧ Aside0 (almanackerref05_Delay.j1 kq t268 0 x35_26 = some r) ∧ Aside0 (kq ≤ kj16) ∧ Aside0 (wc.heap[gb267]? = some (.cells #[.int .i64 a0_0, .int .i64 a0_1] 86 (0, 0))) ∧ Aside0 (Below w.heap.size w wc))
          case first =>
            have H := HC27.out
            clear HC27
            by_cases c28 : a2 = true
            · subst c28
              have H1 : (if t268 = 1 then (almanackerref05_Delay.j1 kj16 t268 0 (decide (a0_1 ≥ 16789))) else (almanackerref05_Delay.j1 kj16 t268 0 false)) = some r := by rw [if_pos rfl] at H; exact H
              clear H
              have H := H1
              clear H1
              by_cases c29 : t268 = 1
              · rw [if_pos c29] at H
                have c29b0 : (t268 == 1) = true := beq_iff_eq.mpr c29
                have c29b1 : (t268 != 1) = false := bne_eq_false_iff_eq.mpr c29
                clear c29
                (first | rw [c29b0] | (simp only [i64_w, i32_w]; rw [c29b0]) | skip)
                have H' := Aside0.mk H
                clear H
                have hcz30_0 : wc.cell? ⟨gb267, 0, none⟩ = some (.int .i64 a0_0) := (blk_cell BK267.out 0).trans rfl
                have hcz30_1 : wc.cell? ⟨gb267, 1, none⟩ = some (.int .i64 a0_1) := (blk_cell BK267.out 1).trans rfl
                have hfz30_0 := blk_frozen BK267.out 0
                have hfz30_1 := blk_frozen BK267.out 1
                go_wp2
                go_meet
                case rel => exact ⟨_, (decide (a0_1 ≥ 16789)), (by first | rfl | (simp; done) | (simp [*]; done)), H', ⟨by have := HJ16.out; first | omega | exact Nat.le_refl _⟩, ⟨by (with_reducible repeat (first | refine blk_drewN ?_ _ | refine blk_drew ?_ | refine blk_alloc ?_ _)); exact BK267.out⟩, ⟨by repeat (first | (with_reducible first | exact HB.out | apply below_alloc | apply pw_below_drewN | apply below_drew1 | refine below_set ?_ GE267.out) | exact HB.out)⟩⟩
              · rw [if_neg c29] at H
                have c29b0 : (t268 == 1) = false := beq_eq_false_iff_ne.mpr c29
                have c29b1 : (t268 != 1) = true := bne_iff_ne.mpr c29
                (first | rw [c29b0] | (simp only [i64_w, i32_w]; rw [c29b0]) | skip)
                have H' := Aside0.mk H
                clear H
                go_wp2
                go_meet
                case rel => exact ⟨_, (false), (by first | rfl | (simp; done) | (simp [*]; done)), H', ⟨by have := HJ16.out; first | omega | exact Nat.le_refl _⟩, ⟨by (with_reducible repeat (first | refine blk_drewN ?_ _ | refine blk_drew ?_ | refine blk_alloc ?_ _)); exact BK267.out⟩, ⟨by repeat (first | (with_reducible first | exact HB.out | apply below_alloc | apply pw_below_drewN | apply below_drew1 | refine below_set ?_ GE267.out) | exact HB.out)⟩⟩
            · replace c28 := Bool.eq_false_iff.mpr c28
              subst c28
              have H1 : (almanackerref05_Delay.j1 kj16 t268 0 false) = some r := by rw [if_neg (show ¬ (false = true) by decide)] at H; exact H
              clear H
              have H := H1
              clear H1
              have H' := Aside0.mk H
              clear H
              go_wp2
              go_meet
              case rel => exact ⟨_, (false), (by first | rfl | (simp; done) | (simp [*]; done)), H', ⟨by have := HJ16.out; first | omega | exact Nat.le_refl _⟩, ⟨by (with_reducible repeat (first | refine blk_drewN ?_ _ | refine blk_drew ?_ | refine blk_alloc ?_ _)); exact BK267.out⟩, ⟨by repeat (first | (with_reducible first | exact HB.out | apply below_alloc | apply pw_below_drewN | apply below_drew1 | refine below_set ?_ GE267.out) | exact HB.out)⟩⟩
          case rest =>
            clear HC27
            try clear c1
            try clear c2
            try clear p2
            try clear c3
            try clear c5
            try clear c5b0
            try clear c6
            try clear c6b0
            try clear c6b1
            try clear p6
            try clear c9
            try clear c9b0
            try clear c9b1
            try clear c12
            try clear c12b0
            try clear c12b1
            try clear c20
            try clear c21
            try clear c21b0
            try clear c21b1
            try clear c23
            try clear c24
            try clear c24b0
            try clear c24b1
            try clear c25
            try clear c25b0
            try clear c25b1
            try clear c26
            try clear c26b0
            try clear c26b1
            try clear c28
            try clear c29
            try clear c29b0
            try clear c29b1
            try clear hcz11_0
            try clear hcz11_1
            try clear hcz14_0
            try clear hcz14_1
            try clear hcz16_0
            try clear hcz16_1
            try clear hcz19_0
            try clear hcz19_1
            try clear hcz22_0
            try clear hcz22_1
            try clear hcz30_0
            try clear hcz30_1
            try clear hcz8_0
            try clear hcz8_1
            try clear hfz11_0
            try clear hfz11_1
            try clear hfz14_0
            try clear hfz14_1
            try clear hfz16_0
            try clear hfz16_1
            try clear hfz19_0
            try clear hfz19_1
            try clear hfz22_0
            try clear hfz22_1
            try clear hfz30_0
            try clear hfz30_1
            try clear hfz8_0
            try clear hfz8_1
            try clear p2
            try clear p6
            obtain ⟨kq, x35_26, rfl, HA, HJ26, BK267, HB⟩ := hcut
            cases kq with
            | zero => exact absurd HA.out (by simp [almanackerref05_Delay.j1])
            | succ kj26 =>
              have H := HA.out
              clear HA
              simp only [almanackerref05_Delay.j1] at H
              by_cases c31 : x35_26 = true
              · subst c31
                have H1 : (if (Int.tmod (wrap64 (t268 + 1)) 7) = 0 then (some (1 + 1)) else (if (Int.tmod (wrap64 (t268 + 1)) 7) = 3 then (some (1 + 1)) else (if (Int.tmod (wrap64 (t268 + 1)) 7) = 5 then (some (1 + 1)) else (some 1)))) = some r := by rw [if_pos rfl] at H; exact H
                clear H
                have H := H1
                clear H1
                by_cases c32 : (Int.tmod (wrap64 (t268 + 1)) 7) = 0
                · rw [if_pos c32] at H
                  have c32b0 : ((Int.tmod (wrap64 (t268 + 1)) 7) == 0) = true := beq_iff_eq.mpr c32
                  have c32b1 : ((Int.tmod (wrap64 (t268 + 1)) 7) != 0) = false := bne_eq_false_iff_eq.mpr c32
                  clear c32
                  obtain rfl := Option.some.inj H
                  go_wp2
                  go_ret
                  exact ⟨by first | rfl | (simp [errW_none, errW_some] <;> rfl) | (simp [*, errW_none, errW_some] <;> rfl), by repeat (first | (with_reducible first | exact HB.out | apply below_alloc | apply pw_below_drewN | apply below_drew1 | refine below_set ?_ GE267.out) | exact HB.out)⟩
                · rw [if_neg c32] at H
                  have c32b0 : ((Int.tmod (wrap64 (t268 + 1)) 7) == 0) = false := beq_eq_false_iff_ne.mpr c32
                  have c32b1 : ((Int.tmod (wrap64 (t268 + 1)) 7) != 0) = true := bne_iff_ne.mpr c32
                  by_cases c33 : (Int.tmod (wrap64 (t268 + 1)) 7) = 3
                  · rw [if_pos c33] at H
                    have c33b0 : ((Int.tmod (wrap64 (t268 + 1)) 7) == 3) = true := beq_iff_eq.mpr c33
                    have c33b1 : ((Int.tmod (wrap64 (t268 + 1)) 7) != 3) = false := bne_eq_false_iff_eq.mpr c33
                    clear c33
                    obtain rfl := Option.some.inj H
                    go_wp2
                    go_ret
                    exact ⟨by first | rfl | (simp [errW_none, errW_some] <;> rfl) | (simp [*, errW_none, errW_some] <;> rfl), by repeat (first | (with_reducible first | exact HB.out | apply below_alloc | apply pw_below_drewN | apply below_drew1 | refine below_set ?_ GE267.out) | exact HB.out)⟩
                  · rw [if_neg c33] at H
                    have c33b0 : ((Int.tmod (wrap64 (t268 + 1)) 7) == 3) = false := beq_eq_false_iff_ne.mpr c33
                    have c33b1 : ((Int.tmod (wrap64 (t268 + 1)) 7) != 3) = true := bne_iff_ne.mpr c33
                    by_cases c34 : (Int.tmod (wrap64 (t268 + 1)) 7) = 5
                    · rw [if_pos c34] at H
                      have c34b0 : ((Int.tmod (wrap64 (t268 + 1)) 7) == 5) = true := beq_iff_eq.mpr c34
                      have c34b1 : ((Int.tmod (wrap64 (t268 + 1)) 7) != 5) = false := bne_eq_false_iff_eq.mpr c34
                      clear c34
                      obtain rfl := Option.some.inj H
                      go_wp2
                      go_ret
                      exact ⟨by first | rfl | (simp [errW_none, errW_some] <;> rfl) | (simp [*, errW_none, errW_some] <;> rfl), by repeat (first | (with_reducible first | exact HB.out | apply below_alloc | apply pw_below_drewN | apply below_drew1 | refine below_set ?_ GE267.out) | exact HB.out)⟩
                    · rw [if_neg c34] at H
                      have c34b0 : ((Int.tmod (wrap64 (t268 + 1)) 7) == 5) = false := beq_eq_false_iff_ne.mpr c34
                      have c34b1 : ((Int.tmod (wrap64 (t268 + 1)) 7) != 5) = true := bne_iff_ne.mpr c34
                      obtain rfl := Option.some.inj H
                      go_wp2
                      go_ret
                      exact ⟨by first | rfl | (simp [errW_none, errW_some] <;> rfl) | (simp [*, errW_none, errW_some] <;> rfl), by repeat (first | (with_reducible first | exact HB.out | apply below_alloc | apply pw_below_drewN | apply below_drew1 | refine below_set ?_ GE267.out) | exact HB.out)⟩
              · replace c31 := Bool.eq_false_iff.mpr c31
                subst c31
                have H1 : (if (Int.tmod (wrap64 (t268 + 0)) 7) = 0 then (some (wrap64 (0 + 1))) else (if (Int.tmod (wrap64 (t268 + 0)) 7) = 3 then (some (wrap64 (0 + 1))) else (if (Int.tmod (wrap64 (t268 + 0)) 7) = 5 then (some (wrap64 (0 + 1))) else (some 0)))) = some r := by rw [if_neg (show ¬ (false = true) by decide)] at H; exact H
                clear H
                have H := H1
                clear H1
                simp only [Int.add_zero, Int.zero_add, show wrap64 1 = 1 by unfold wrap64; omega] at H
                by_cases c35 : (Int.tmod (wrap64 t268) 7) = 0
                · rw [if_pos c35] at H
                  have c35b0 : ((Int.tmod (wrap64 t268) 7) == 0) = true := beq_iff_eq.mpr c35
                  have c35b1 : ((Int.tmod (wrap64 t268) 7) != 0) = false := bne_eq_false_iff_eq.mpr c35
                  clear c35
                  obtain rfl := Option.some.inj H
                  go_wp2
                  go_ret
                  exact ⟨by first | rfl | (simp [errW_none, errW_some] <;> rfl) | (simp [*, errW_none, errW_some] <;> rfl), by repeat (first | (with_reducible first | exact HB.out | apply below_alloc | apply pw_below_drewN | apply below_drew1 | refine below_set ?_ GE267.out) | exact HB.out)⟩
                · rw [if_neg c35] at H
                  have c35b0 : ((Int.tmod (wrap64 t268) 7) == 0) = false := beq_eq_false_iff_ne.mpr c35
                  have c35b1 : ((Int.tmod (wrap64 t268) 7) != 0) = true := bne_iff_ne.mpr c35
                  by_cases c36 : (Int.tmod (wrap64 t268) 7) = 3
                  · rw [if_pos c36] at H
                    have c36b0 : ((Int.tmod (wrap64 t268) 7) == 3) = true := beq_iff_eq.mpr c36
                    have c36b1 : ((Int.tmod (wrap64 t268) 7) != 3) = false := bne_eq_false_iff_eq.mpr c36
                    clear c36
                    obtain rfl := Option.some.inj H
                    go_wp2
                    go_ret
                    exact ⟨by first | rfl | (simp [errW_none, errW_some] <;> rfl) | (simp [*, errW_none, errW_some] <;> rfl), by repeat (first | (with_reducible first | exact HB.out | apply below_alloc | apply pw_below_drewN | apply below_drew1 | refine below_set ?_ GE267.out) | exact HB.out)⟩
                  · rw [if_neg c36] at H
                    have c36b0 : ((Int.tmod (wrap64 t268) 7) == 3) = false := beq_eq_false_iff_ne.mpr c36
                    have c36b1 : ((Int.tmod (wrap64 t268) 7) != 3) = true := bne_iff_ne.mpr c36
                    by_cases c37 : (Int.tmod (wrap64 t268) 7) = 5
                    · rw [if_pos c37] at H
                      have c37b0 : ((Int.tmod (wrap64 t268) 7) == 5) = true := beq_iff_eq.mpr c37
                      have c37b1 : ((Int.tmod (wrap64 t268) 7) != 5) = false := bne_eq_false_iff_eq.mpr c37
                      clear c37
                      obtain rfl := Option.some.inj H
                      go_wp2
                      go_ret
                      exact ⟨by first | rfl | (simp [errW_none, errW_some] <;> rfl) | (simp [*, errW_none, errW_some] <;> rfl), by repeat (first | (with_reducible first | exact HB.out | apply below_alloc | apply pw_below_drewN | apply below_drew1 | refine below_set ?_ GE267.out) | exact HB.out)⟩
                    · rw [if_neg c37] at H
                      have c37b0 : ((Int.tmod (wrap64 t268) 7) == 5) = false := beq_eq_false_iff_ne.mpr c37
                      have c37b1 : ((Int.tmod (wrap64 t268) 7) != 5) = true := bne_iff_ne.mpr c37
                      obtain rfl := Option.some.inj H
                      go_wp2
                      go_ret
                      exact ⟨by first | rfl | (simp [errW_none, errW_some] <;> rfl) | (simp [*, errW_none, errW_some] <;> rfl), by repeat (first | (with_reducible first | exact HB.out | apply below_alloc | apply pw_below_drewN | apply below_drew1 | refine below_set ?_ GE267.out) | exact HB.out)⟩

def almanackerref05_First.f (k : Nat) (a0 : Int) : Option (Int × Int) := (almanackerref04_Of.f k a0 1).bind fun bt269 => (if bt269.2.2 = 0 then ((almanackerref03_Is.f a0).bind fun t273 => ((almanackerref03_Is.f (wrap64 (a0 - 1))).bind fun t274 => ((almanackerref05_Delay.f k bt269.1 bt269.2.1 t273 t274).bind fun t275 => (some (wrap64 (bt269.1 + t275), 0))))) else (some (0, bt269.2.2)))
def almanackerref05_First.T4 : Bool × List (List Nat × List Nat) := (true, [([], []), ([0], [0]), ([], []), ([], []), ([3], [3]), ([], []), ([5], [5]), ([6, 4], [6]), ([2, 4, 7, 7], [2, 4, 7]), ([1, 8], [1, 8]), ([9, 8, 0, 1, 2, 3, 4, 5, 6, 7, 8, 9], [9]), ([10, 0, 1, 2, 3, 4, 5, 6, 7, 8, 9, 10], [])])
def almanackerref05_First.B4 : List Nat := [0, 1, 0, 0, 8, 0, 32, 120, 252, 511, 1023, 2047]
theorem almanackerref05_First.tab4 : rtab .any (opsOf Tryd.f34 4) = almanackerref05_First.T4 := by kernel_rfl
theorem almanackerref05_First.bits4 : waitsOk almanackerref05_First.T4.2 almanackerref05_First.B4 = true := by kernel_rfl
set_option maxHeartbeats 8000000 in
set_option maxRecDepth 100000 in
theorem almanackerref05_First.calls (k : Nat) (a0 : Int) (r1 : Int) (r2 : Int) (w : World) (h : almanackerref05_First.f k a0 = some (r1, r2)) :
    Calls Tryd.prog 34 #[.int .i64 a0] w fun e w' => e = .returned (.tuple #[.int .i64 r1, .int .i64 r2]) ∧ Below w.heap.size w w' := by
  have hu86 := Tryd.underlying86
  have HB := Aside0.mk (Below.refl w.heap.size w)
  have H : ((almanackerref04_Of.f k a0 1).bind fun bt269 => (if bt269.2.2 = 0 then ((almanackerref03_Is.f a0).bind fun t273 => ((almanackerref03_Is.f (wrap64 (a0 - 1))).bind fun t274 => ((almanackerref05_Delay.f k bt269.1 bt269.2.1 t273 t274).bind fun t275 => (some (wrap64 (bt269.1 + t275), 0))))) else (some (0, bt269.2.2)))) = some (r1, r2) := h
  clear h
  replace H := Option.bind_eq_some_iff.mp H
  obtain ⟨⟨t269, t270, t271⟩, A20, H⟩ := H
  replace H : (if t271 = 0 then ((almanackerref03_Is.f a0).bind fun t273 => ((almanackerref03_Is.f (wrap64 (a0 - 1))).bind fun t274 => ((almanackerref05_Delay.f k t269 t270 t273 t274).bind fun t275 => (some (wrap64 (t269 + t275), 0))))) else (some (0, t271))) = some (r1, r2) := H
  have A2 := Aside0.mk A20
  clear A20
  by_cases c3 : t271 = 0
  · rw [if_pos c3] at H
    have c3b0 : (t271 == 0) = true := beq_iff_eq.mpr c3
    have c3b1 : (t271 != 0) = false := bne_eq_false_iff_eq.mpr c3
    clear c3
    replace H := Option.bind_eq_some_iff.mp H
    obtain ⟨t273, A40, H⟩ := H
    replace H : ((almanackerref03_Is.f (wrap64 (a0 - 1))).bind fun t274 => ((almanackerref05_Delay.f k t269 t270 t273 t274).bind fun t275 => (some (wrap64 (t269 + t275), 0)))) = some (r1, r2) := H
    have A4 := Aside0.mk A40
    clear A40
    replace H := Option.bind_eq_some_iff.mp H
    obtain ⟨t274, A50, H⟩ := H
    replace H : ((almanackerref05_Delay.f k t269 t270 t273 t274).bind fun t275 => (some (wrap64 (t269 + t275), 0))) = some (r1, r2) := H
    have A5 := Aside0.mk A50
    clear A50
    replace H := Option.bind_eq_some_iff.mp H
    obtain ⟨t275, A60, H⟩ := H
    replace H : (some (wrap64 (t269 + t275), 0)) = some (r1, r2) := H
    have A6 := Aside0.mk A60
    clear A60
    simp only [Option.some.injEq, Prod.mk.injEq] at H
    obtain ⟨rfl, rfl⟩ := H
    go_enter Tryd.func34, Tryd.ntmps34
    try go_wp2_with (first | ((with_reducible refine gate_callee (f := 58) rfl ?_); refine goesL_ (some 8) rfl rfl Tryd.func58 (by kernel_rfl) rfl #[.int .i64 a0, .int .i64 1] rfl (by (try simp only [List.map_toArray, List.map_cons, List.map_nil]); first | done | rfl | (simp only [List.length_drop, List.length_take]; rfl)) ?_; (with_reducible refine (almanackerref04_Of.calls k a0 1 t269 t270 t271 _ A2.out).mono ?_); rintro e w7 ⟨rfl, hb⟩; refine ⟨_, rfl, ?_⟩; have n0_ := Aside0.mk (below_step (by repeat (first | (with_reducible first | exact HB.out | apply below_alloc | apply pw_below_drewN | apply below_drew1) | exact HB.out)) hb); clear HB; have HB := n0_; clear n0_; (try clear hb); (try clear hb2); (try clear hk); (try clear hi)) | ((with_reducible refine gate_dst (N := 4) rfl ?_); refine box_event ?hg (N := 4) ?hd (cs := #[.int .i64 0, .int .i64 0]) (t := 86) ?hr ?_; (case hd => rfl); (case hg => rfl); (case hr => first | (go_simp; done) | (go_simp; rfl)); intro gb272 hg w8 hbox hb; have n0_ := Aside0.mk (below_step (by repeat (first | (with_reducible first | exact HB.out | apply below_alloc | apply pw_below_drewN | apply below_drew1) | exact HB.out)) hb); have n1_ := Aside0.mk (hbox); have n2_ := Aside0.mk ((by rw [hg]; exact (below_size (by repeat (first | (with_reducible first | exact HB.out | apply below_alloc | apply pw_below_drewN | apply below_drew1) | exact HB.out))) : w.heap.size ≤ gb272)); have n3_ := Aside0.mk ((by rw [hg]; exact (below_size (by repeat (first | (with_reducible first | exact HB.out | apply below_alloc | apply pw_below_drewN | apply below_drew1) | exact HB.out))) : w.heap.size ≤ gb272)); clear HB; have HB := n0_; have BK272 := n1_; have GW272 := n2_; have GE272 := n3_; clear n0_ n1_ n2_ n3_; clear hb hbox hg; have hcz9_0 : w8.cell? ⟨gb272, 0, none⟩ = some (.int .i64 0) := (blk_cell BK272.out 0).trans rfl; have hcz9_1 : w8.cell? ⟨gb272, 1, none⟩ = some (.int .i64 0) := (blk_cell BK272.out 1).trans rfl; have hfz9_0 := blk_frozen BK272.out 0; have hfz9_1 := blk_frozen BK272.out 1))
    have n0_ : Aside0 (((w8.setCell ⟨gb272, 0, none⟩ (.int .i64 t269)).setCell ⟨gb272, 1, none⟩ (.int .i64 t270)).heap[gb272]? = some (.cells #[.int .i64 t269, .int .i64 t270] 86 (0, 0))) := ⟨by (with_reducible repeat (first | refine blk_drewN ?_ _ | refine blk_drew ?_ | refine blk_alloc ?_ _)); refine blk_put (cs := #[.int .i64 t269, .int .i64 0]) ?_ 1 _ rfl; (with_reducible repeat (first | refine blk_drewN ?_ _ | refine blk_drew ?_ | refine blk_alloc ?_ _)); refine blk_put (cs := #[.int .i64 0, .int .i64 0]) ?_ 0 _ rfl; (with_reducible repeat (first | refine blk_drewN ?_ _ | refine blk_drew ?_ | refine blk_alloc ?_ _)); exact BK272.out⟩
    have n1_ : Aside0 (Below w.heap.size w ((w8.setCell ⟨gb272, 0, none⟩ (.int .i64 t269)).setCell ⟨gb272, 1, none⟩ (.int .i64 t270))) := ⟨by repeat (first | (with_reducible first | exact HB.out | apply below_alloc | apply pw_below_drewN | apply below_drew1 | refine below_set ?_ GE272.out) | exact HB.out)⟩
    (try clear BK272)
    (try clear HB)
    generalize ((w8.setCell ⟨gb272, 0, none⟩ (.int .i64 t269)).setCell ⟨gb272, 1, none⟩ (.int .i64 t270)) = w10 at n0_ n1_ ⊢
    have BK272 := n0_
    have HB := n1_
    clear n0_ n1_
    have n0_ := Aside0.mk (blk_drew BK272.out)
    have n1_ := Aside0.mk (below_drew1 HB.out)
    clear BK272
    clear HB
    have BK272 := n0_
    have HB := n1_
    clear n0_ n1_
    refine start_ (n := 12) (S := fun w' => w'.cell? ⟨gb272, 0, none⟩ = some (.int .i64 t269) ∧ w'.cell? ⟨gb272, 1, none⟩ = some (.int .i64 t270)) (ds := []) #[false, false, false, false, false, false, false, false, false, false, false, false] (by kernel_rfl) rfl rfl ⟨(blk_cell BK272.out 0).trans rfl, (blk_cell BK272.out 1).trans rfl⟩ (fun hHeld => ?_); refine with_tabW almanackerref05_First.tab4 almanackerref05_First.bits4 (fun HT_ HW_ => ?_)
    generalize w10.drew = w11 at BK272 HB hHeld ⊢
    refine pure_ (i := 0) (N := some 14) (v := ?_) (a' := ?_) #[true, false, false, false, false, false, false, false, false, false, false, false] rfl rfl (any_of HT_.out (by kernel_rfl)) (fun _ _ _ h => h) (Or.inl ⟨by rfl, ?_⟩) ?_ ?_
    rotate_left
    · intro w'
      go_simp
      with_reducible rfl
    rotate_left
    · simp only [Act.put, List.setIfInBounds_toArray, List.set_cons_zero, List.set_cons_succ, i64_w, i32_w]
      rfl
    refine pure_ (i := 3) (N := some 17) (v := ?_) (a' := ?_) #[true, false, false, true, false, false, false, false, false, false, false, false] rfl rfl (any_of HT_.out (by kernel_rfl)) (fun _ _ _ h => h) (Or.inl ⟨by rfl, ?_⟩) ?_ ?_
    rotate_left
    · intro w'
      go_simp
      with_reducible rfl
    rotate_left
    · simp only [Act.put, List.setIfInBounds_toArray, List.set_cons_zero, List.set_cons_succ, i64_w, i32_w]
      rfl
    refine pure_ (i := 5) (N := some 19) (v := ?_) (a' := ?_) #[true, false, false, true, false, true, false, false, false, false, false, false] rfl rfl (any_of HT_.out (by kernel_rfl)) (fun _ _ _ h => h) (Or.inl ⟨by rfl, ?_⟩) ?_ ?_
    rotate_left
    · intro w'
      go_simp
      with_reducible rfl
    rotate_left
    · simp only [Act.put, List.setIfInBounds_toArray, List.set_cons_zero, List.set_cons_succ, i64_w, i32_w]
      rfl
    refine pure_ (i := 6) (N := some 20) (v := ?_) (a' := ?_) #[true, false, false, true, false, true, true, false, false, false, false, false] rfl rfl (any_of HT_.out (by kernel_rfl)) (fun _ _ _ h => h) (Or.inl ⟨by rfl, ?_⟩) ?_ ?_
    rotate_left
    · intro w'
      go_simp
      with_reducible rfl
    rotate_left
    · simp only [Act.put, List.setIfInBounds_toArray, List.set_cons_zero, List.set_cons_succ, i64_w, i32_w]
      rfl
    refine take_ (i := 1) (N := some 15) (v := ?_) (a' := ?_) #[true, true, false, true, false, true, true, false, false, false, false, false] rfl rfl (take_ofW HT_.out HW_.out (by kernel_rfl)) (fun _ _ _ h => h) (Or.inl ⟨by rfl, ?_⟩) hHeld ?_ ?_
    rotate_left
    · rintro w' ⟨s0, s1⟩
      go_simp
      with_reducible rfl
    rotate_left
    · simp only [Act.put, List.setIfInBounds_toArray, List.set_cons_zero, List.set_cons_succ, i64_w, i32_w]
      rfl
    refine take_ (i := 2) (N := some 16) (v := ?_) (a' := ?_) #[true, true, true, true, false, true, true, false, false, false, false, false] rfl rfl (take_ofW HT_.out HW_.out (by kernel_rfl)) (fun _ _ _ h => h) (Or.inl ⟨by rfl, ?_⟩) hHeld ?_ ?_
    rotate_left
    · rintro w' ⟨s0, s1⟩
      go_simp
      with_reducible rfl
    rotate_left
    · simp only [Act.put, List.setIfInBounds_toArray, List.set_cons_zero, List.set_cons_succ, i64_w, i32_w]
      rfl
    refine one_ (i := 4) (N := some 18) #[true, true, true, true, true, true, true, false, false, false, false, false] rfl rfl (one_of HT_.out (by kernel_rfl)) (by decide) (fun K hK => ?_)
    refine goes_ Tryd.func60 (by kernel_rfl) rfl #[.int .i64 a0] (by rfl) rfl rfl (by (try simp only [List.map_toArray, List.map_cons, List.map_nil]); first | done | rfl | (simp only [List.length_drop, List.length_take]; rfl)) ?_
    with_reducible refine (almanackerref03_Is.calls a0 t273 _ A4.out).mono ?_
    rintro e w' ⟨rfl, ⟨nd, rfl⟩⟩
    refine ⟨_, rfl, ?_⟩
    refine hK.out _ _ ⟨(blk_cell BK272.out 0).trans rfl, (blk_cell BK272.out 1).trans rfl⟩ (fun hHeld => ?_)
    clear hK K
    refine norm_ (a' := ?_) ?_ ?_
    rotate_left
    · show Act.put _ (some 18) _ = _
      simp only [Act.put, List.setIfInBounds_toArray, List.set_cons_zero, List.set_cons_succ, i64_w, i32_w]
      rfl
    refine one_ (i := 7) (N := some 21) #[true, true, true, true, true, true, true, true, false, false, false, false] rfl rfl (one_of HT_.out (by kernel_rfl)) (by decide) (fun K hK => ?_)
    refine goes_ Tryd.func60 (by kernel_rfl) rfl #[.int .i64 (wrap64 (a0 - 1))] (by rfl) rfl rfl (by (try simp only [List.map_toArray, List.map_cons, List.map_nil]); first | done | rfl | (simp only [List.length_drop, List.length_take]; rfl)) ?_
    with_reducible refine (almanackerref03_Is.calls (wrap64 (a0 - 1)) t274 _ A5.out).mono ?_
    rintro e w' ⟨rfl, ⟨nd, rfl⟩⟩
    refine ⟨_, rfl, ?_⟩
    refine hK.out _ _ ⟨(blk_cell BK272.out 0).trans rfl, (blk_cell BK272.out 1).trans rfl⟩ (fun hHeld => ?_)
    clear hK K
    refine norm_ (a' := ?_) ?_ ?_
    rotate_left
    · show Act.put _ (some 21) _ = _
      simp only [Act.put, List.setIfInBounds_toArray, List.set_cons_zero, List.set_cons_succ, i64_w, i32_w]
      rfl
    refine one_ (i := 8) (N := some 22) #[true, true, true, true, true, true, true, true, true, false, false, false] rfl rfl (one_of HT_.out (by kernel_rfl)) (by decide) (fun K hK => ?_)
    refine goes_ Tryd.func59 (by kernel_rfl) rfl #[.agg #[.int .i64 t269, .int .i64 t270], .bool t273, .bool t274] (by rfl) rfl rfl (by (try simp only [List.map_toArray, List.map_cons, List.map_nil]); first | done | rfl | (simp only [List.length_drop, List.length_take]; rfl)) ?_
    with_reducible refine (almanackerref05_Delay.calls k t269 t270 t273 t274 t275 _ A6.out).mono ?_
    rintro e w12 ⟨rfl, hb⟩
    refine ⟨_, rfl, ?_⟩
    have n0_ := Aside0.mk (blk_below (g := gb272) (o := .cells #[.int .i64 t269, .int .i64 t270] 86 (0, 0)) (by (with_reducible repeat (first | refine blk_drewN ?_ _ | refine blk_drew ?_ | refine blk_alloc ?_ _)); exact BK272.out) hb)
    have n1_ := Aside0.mk (below_step (by repeat (first | (with_reducible first | exact HB.out | apply below_alloc | apply pw_below_drewN | apply below_drew1 | refine below_set ?_ GE272.out) | exact HB.out)) hb)
    clear BK272
    clear HB
    have BK272 := n0_
    have HB := n1_
    clear n0_ n1_
    (try clear hb)
    (try clear hb2)
    (try clear hk)
    (try clear hi)
    refine hK.out _ _ ⟨(blk_cell BK272.out 0).trans rfl, (blk_cell BK272.out 1).trans rfl⟩ (fun hHeld => ?_)
    clear hK K
    refine norm_ (a' := ?_) ?_ ?_
    rotate_left
    · show Act.put _ (some 22) _ = _
      simp only [Act.put, List.setIfInBounds_toArray, List.set_cons_zero, List.set_cons_succ, i64_w, i32_w]
      rfl
    refine pure_ (i := 9) (N := some 23) (v := ?_) (a' := ?_) #[true, true, true, true, true, true, true, true, true, true, false, false] rfl rfl (any_of HT_.out (by kernel_rfl)) (fun _ _ _ h => h) (Or.inl ⟨by rfl, ?_⟩) ?_ ?_
    rotate_left
    · intro w'
      go_simp
      with_reducible rfl
    rotate_left
    · simp only [Act.put, List.setIfInBounds_toArray, List.set_cons_zero, List.set_cons_succ, i64_w, i32_w]
      rfl
    refine pure_ (i := 10) (N := some 2) (v := ?_) (a' := ?_) #[true, true, true, true, true, true, true, true, true, true, true, false] rfl rfl (any_of HT_.out (by kernel_rfl)) (fun _ _ _ h => h) (Or.inl ⟨by rfl, ?_⟩) ?_ ?_
    rotate_left
    · intro w'
      go_simp
      with_reducible rfl
    rotate_left
    · simp only [Act.put, List.setIfInBounds_toArray, List.set_cons_zero, List.set_cons_succ, i64_w, i32_w]
      rfl
    refine pure_ (i := 11) (N := some 3) (v := ?_) (a' := ?_) #[true, true, true, true, true, true, true, true, true, true, true, true] rfl rfl (any_of HT_.out (by kernel_rfl)) (fun _ _ _ h => h) (Or.inl ⟨by rfl, ?_⟩) ?_ ?_
    rotate_left
    · intro w'
      go_simp
      with_reducible rfl
    rotate_left
    · simp only [Act.put, List.setIfInBounds_toArray, List.set_cons_zero, List.set_cons_succ, i64_w, i32_w]
      rfl
    refine done_ (done_of HT_.out (by kernel_rfl)) ?_
    try go_wp2
    go_ret2
    exact ⟨by first | rfl | (simp [errW_none, errW_some] <;> rfl) | (simp [*, errW_none, errW_some] <;> rfl), by repeat (first | (with_reducible first | exact HB.out | apply below_alloc | apply pw_below_drewN | apply below_drew1 | refine below_set ?_ GE272.out) | exact HB.out)⟩
  · rw [if_neg c3] at H
    have c3b0 : (t271 == 0) = false := beq_eq_false_iff_ne.mpr c3
    have c3b1 : (t271 != 0) = true := bne_iff_ne.mpr c3
    simp only [Option.some.injEq, Prod.mk.injEq] at H
    obtain ⟨rfl, rfl⟩ := H
    go_enter Tryd.func34, Tryd.ntmps34
    go_wp2_with (first | ((with_reducible refine gate_callee (f := 58) rfl ?_); refine goesL_ (some 8) rfl rfl Tryd.func58 (by kernel_rfl) rfl #[.int .i64 a0, .int .i64 1] rfl (by (try simp only [List.map_toArray, List.map_cons, List.map_nil]); first | done | rfl | (simp only [List.length_drop, List.length_take]; rfl)) ?_; (with_reducible refine (almanackerref04_Of.calls k a0 1 t269 t270 t271 _ A2.out).mono ?_); rintro e w13 ⟨rfl, hb⟩; refine ⟨_, rfl, ?_⟩; have n0_ := Aside0.mk (below_step (by repeat (first | (with_reducible first | exact HB.out | apply below_alloc | apply pw_below_drewN | apply below_drew1) | exact HB.out)) hb); clear HB; have HB := n0_; clear n0_; (try clear hb); (try clear hb2); (try clear hk); (try clear hi)) | ((with_reducible refine gate_dst (N := 4) rfl ?_); refine box_event ?hg (N := 4) ?hd (cs := #[.int .i64 0, .int .i64 0]) (t := 86) ?hr ?_; (case hd => rfl); (case hg => rfl); (case hr => first | (go_simp; done) | (go_simp; rfl)); intro gb272 hg w14 hbox hb; have n0_ := Aside0.mk (below_step (by repeat (first | (with_reducible first | exact HB.out | apply below_alloc | apply pw_below_drewN | apply below_drew1) | exact HB.out)) hb); have n1_ := Aside0.mk (hbox); have n2_ := Aside0.mk ((by rw [hg]; exact (below_size (by repeat (first | (with_reducible first | exact HB.out | apply below_alloc | apply pw_below_drewN | apply below_drew1) | exact HB.out))) : w.heap.size ≤ gb272)); have n3_ := Aside0.mk ((by rw [hg]; exact (below_size (by repeat (first | (with_reducible first | exact HB.out | apply below_alloc | apply pw_below_drewN | apply below_drew1) | exact HB.out))) : w.heap.size ≤ gb272)); clear HB; have HB := n0_; have BK272 := n1_; have GW272 := n2_; have GE272 := n3_; clear n0_ n1_ n2_ n3_; clear hb hbox hg; have hcz15_0 : w14.cell? ⟨gb272, 0, none⟩ = some (.int .i64 0) := (blk_cell BK272.out 0).trans rfl; have hcz15_1 : w14.cell? ⟨gb272, 1, none⟩ = some (.int .i64 0) := (blk_cell BK272.out 1).trans rfl; have hfz15_0 := blk_frozen BK272.out 0; have hfz15_1 := blk_frozen BK272.out 1))
    go_ret2
    exact ⟨by first | rfl | (simp [errW_none, errW_some] <;> rfl) | (simp [*, errW_none, errW_some] <;> rfl), by repeat (first | (with_reducible first | exact HB.out | apply below_alloc | apply pw_below_drewN | apply below_drew1 | refine below_set ?_ GE272.out) | exact HB.out)⟩

end Go.Proofs.YtflpddhoiafhcaaDoor.G
end
