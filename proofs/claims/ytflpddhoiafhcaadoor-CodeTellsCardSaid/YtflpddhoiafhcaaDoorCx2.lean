-- Written by wip/hprint.py of this repo (holes typed by hand, all else by a program) over the seat YtflpddhoiafhcaaDoor.
import Derived.Test.YtflpddhoiafhcaaDoorCx0
import Derived.Test.YtflpddhoiafhcaaDoorCx1
namespace Go.Proofs.YtflpddhoiafhcaaDoor.C
open Go.RowKit Go.Proofs.YtflpddhoiafhcaaDoorW.PrintWords Go.Proofs.YtflpddhoiafhcaaDoorW.PrintLast Go.Proofs.YtflpddhoiafhcaaDoorW.PrintMore
attribute [local go_sem] max2_int min2_int max_two min_two max_three min_three max_four min_four   -- for this text's walks alone
set_option linter.unusedVariables false
set_option linter.unusedSimpArgs false

attribute [local go_sem high] eqA23
/-! ### code_Right: function 18 -/
def code_Right.f (a0_0 : Int) (a0_1 : Bool) : Option (Bool) := if a0_0 > 0 then (if a0_0 ≤ 12 then (if a0_0 = 5 then (some true) else (some (!a0_1))) else (some false)) else (some false)
set_option maxHeartbeats 8000000 in
set_option maxRecDepth 100000 in
theorem code_Right.calls (a0_0 : Int) (a0_1 : Bool) (r : Bool) (w : World) (h : code_Right.f a0_0 a0_1 = some r) :
    Calls Tryd.prog 18 #[.agg #[.int .i64 a0_0, .bool a0_1]] w fun e w' => e = .returned (.bool r) ∧ Below w.heap.size w w' := by
  have hu23 := Tryd.underlying23
  have HB := Aside0.mk (Below.refl w.heap.size w)
  have H : (if a0_0 > 0 then (if a0_0 ≤ 12 then (if a0_0 = 5 then (some true) else (some (!a0_1))) else (some false)) else (some false)) = some r := h
  clear h
  by_cases c2 : a0_0 > 0
  · rw [if_pos c2] at H
    have c2b0 : decide (0 < a0_0) = true := decide_eq_true c2
    clear c2
    by_cases c3 : a0_0 ≤ 12
    · rw [if_pos c3] at H
      have c3b0 : decide (a0_0 ≤ 12) = true := decide_eq_true c3
      clear c3
      by_cases c4 : a0_0 = 5
      · rw [if_pos c4] at H
        have c4b0 : (a0_0 == 5) = true := beq_iff_eq.mpr c4
        have c4b1 : (a0_0 != 5) = false := bne_eq_false_iff_eq.mpr c4
        clear c4
        obtain rfl := Option.some.inj H
        go_enter Tryd.func18, Tryd.ntmps18
        go_wp2_with (first | ((with_reducible refine gate_dst (N := 1) rfl ?_); refine box_event ?hg (N := 1) ?hd (cs := #[.int .i64 a0_0, .bool a0_1]) (t := 23) ?hr ?_; (case hd => rfl); (case hg => rfl); (case hr => first | (go_simp; done) | (go_simp; rfl)); intro gb101 hg w5 hbox hb; have n0_ := Aside0.mk (below_step (by repeat (first | (with_reducible first | exact HB.out | apply below_alloc | apply pw_below_drewN | apply below_drew1) | exact HB.out)) hb); have n1_ := Aside0.mk (hbox); have n2_ := Aside0.mk ((by rw [hg]; exact (below_size (by repeat (first | (with_reducible first | exact HB.out | apply below_alloc | apply pw_below_drewN | apply below_drew1) | exact HB.out))) : w.heap.size ≤ gb101)); have n3_ := Aside0.mk ((by rw [hg]; exact (below_size (by repeat (first | (with_reducible first | exact HB.out | apply below_alloc | apply pw_below_drewN | apply below_drew1) | exact HB.out))) : w.heap.size ≤ gb101)); clear HB; have HB := n0_; have BK101 := n1_; have GW101 := n2_; have GE101 := n3_; clear n0_ n1_ n2_ n3_; clear hb hbox hg; have hcz6_0 : w5.cell? ⟨gb101, 0, none⟩ = some (.int .i64 a0_0) := (blk_cell BK101.out 0).trans rfl; have hcz6_1 : w5.cell? ⟨gb101, 1, none⟩ = some (.bool a0_1) := (blk_cell BK101.out 1).trans rfl; have hfz6_0 := blk_frozen BK101.out 0; have hfz6_1 := blk_frozen BK101.out 1))
        go_ret
        exact ⟨by first | rfl | (simp [errW_none, errW_some] <;> rfl) | (simp [*, errW_none, errW_some] <;> rfl), by repeat (first | (with_reducible first | exact HB.out | apply below_alloc | apply pw_below_drewN | apply below_drew1 | refine below_set ?_ GE101.out) | exact HB.out)⟩
      · rw [if_neg c4] at H
        have c4b0 : (a0_0 == 5) = false := beq_eq_false_iff_ne.mpr c4
        have c4b1 : (a0_0 != 5) = true := bne_iff_ne.mpr c4
        obtain rfl := Option.some.inj H
        go_enter Tryd.func18, Tryd.ntmps18
        go_wp2_with (first | ((with_reducible refine gate_dst (N := 1) rfl ?_); refine box_event ?hg (N := 1) ?hd (cs := #[.int .i64 a0_0, .bool a0_1]) (t := 23) ?hr ?_; (case hd => rfl); (case hg => rfl); (case hr => first | (go_simp; done) | (go_simp; rfl)); intro gb101 hg w7 hbox hb; have n0_ := Aside0.mk (below_step (by repeat (first | (with_reducible first | exact HB.out | apply below_alloc | apply pw_below_drewN | apply below_drew1) | exact HB.out)) hb); have n1_ := Aside0.mk (hbox); have n2_ := Aside0.mk ((by rw [hg]; exact (below_size (by repeat (first | (with_reducible first | exact HB.out | apply below_alloc | apply pw_below_drewN | apply below_drew1) | exact HB.out))) : w.heap.size ≤ gb101)); have n3_ := Aside0.mk ((by rw [hg]; exact (below_size (by repeat (first | (with_reducible first | exact HB.out | apply below_alloc | apply pw_below_drewN | apply below_drew1) | exact HB.out))) : w.heap.size ≤ gb101)); clear HB; have HB := n0_; have BK101 := n1_; have GW101 := n2_; have GE101 := n3_; clear n0_ n1_ n2_ n3_; clear hb hbox hg; have hcz8_0 : w7.cell? ⟨gb101, 0, none⟩ = some (.int .i64 a0_0) := (blk_cell BK101.out 0).trans rfl; have hcz8_1 : w7.cell? ⟨gb101, 1, none⟩ = some (.bool a0_1) := (blk_cell BK101.out 1).trans rfl; have hfz8_0 := blk_frozen BK101.out 0; have hfz8_1 := blk_frozen BK101.out 1))
        go_ret
        exact ⟨by first | rfl | (simp [errW_none, errW_some] <;> rfl) | (simp [*, errW_none, errW_some] <;> rfl), by repeat (first | (with_reducible first | exact HB.out | apply below_alloc | apply pw_below_drewN | apply below_drew1 | refine below_set ?_ GE101.out) | exact HB.out)⟩
    · rw [if_neg c3] at H
      have c3b0 : decide (a0_0 ≤ 12) = false := decide_eq_false c3
      clear c3
      obtain rfl := Option.some.inj H
      go_enter Tryd.func18, Tryd.ntmps18
      go_wp2_with (first | ((with_reducible refine gate_dst (N := 1) rfl ?_); refine box_event ?hg (N := 1) ?hd (cs := #[.int .i64 a0_0, .bool a0_1]) (t := 23) ?hr ?_; (case hd => rfl); (case hg => rfl); (case hr => first | (go_simp; done) | (go_simp; rfl)); intro gb101 hg w9 hbox hb; have n0_ := Aside0.mk (below_step (by repeat (first | (with_reducible first | exact HB.out | apply below_alloc | apply pw_below_drewN | apply below_drew1) | exact HB.out)) hb); have n1_ := Aside0.mk (hbox); have n2_ := Aside0.mk ((by rw [hg]; exact (below_size (by repeat (first | (with_reducible first | exact HB.out | apply below_alloc | apply pw_below_drewN | apply below_drew1) | exact HB.out))) : w.heap.size ≤ gb101)); have n3_ := Aside0.mk ((by rw [hg]; exact (below_size (by repeat (first | (with_reducible first | exact HB.out | apply below_alloc | apply pw_below_drewN | apply below_drew1) | exact HB.out))) : w.heap.size ≤ gb101)); clear HB; have HB := n0_; have BK101 := n1_; have GW101 := n2_; have GE101 := n3_; clear n0_ n1_ n2_ n3_; clear hb hbox hg; have hcz10_0 : w9.cell? ⟨gb101, 0, none⟩ = some (.int .i64 a0_0) := (blk_cell BK101.out 0).trans rfl; have hcz10_1 : w9.cell? ⟨gb101, 1, none⟩ = some (.bool a0_1) := (blk_cell BK101.out 1).trans rfl; have hfz10_0 := blk_frozen BK101.out 0; have hfz10_1 := blk_frozen BK101.out 1))
      go_ret
      exact ⟨by first | rfl | (simp [errW_none, errW_some] <;> rfl) | (simp [*, errW_none, errW_some] <;> rfl), by repeat (first | (with_reducible first | exact HB.out | apply below_alloc | apply pw_below_drewN | apply below_drew1 | refine below_set ?_ GE101.out) | exact HB.out)⟩
  · rw [if_neg c2] at H
    have c2b0 : decide (0 < a0_0) = false := decide_eq_false c2
    clear c2
    obtain rfl := Option.some.inj H
    go_enter Tryd.func18, Tryd.ntmps18
    go_wp2_with (first | ((with_reducible refine gate_dst (N := 1) rfl ?_); refine box_event ?hg (N := 1) ?hd (cs := #[.int .i64 a0_0, .bool a0_1]) (t := 23) ?hr ?_; (case hd => rfl); (case hg => rfl); (case hr => first | (go_simp; done) | (go_simp; rfl)); intro gb101 hg w11 hbox hb; have n0_ := Aside0.mk (below_step (by repeat (first | (with_reducible first | exact HB.out | apply below_alloc | apply pw_below_drewN | apply below_drew1) | exact HB.out)) hb); have n1_ := Aside0.mk (hbox); have n2_ := Aside0.mk ((by rw [hg]; exact (below_size (by repeat (first | (with_reducible first | exact HB.out | apply below_alloc | apply pw_below_drewN | apply below_drew1) | exact HB.out))) : w.heap.size ≤ gb101)); have n3_ := Aside0.mk ((by rw [hg]; exact (below_size (by repeat (first | (with_reducible first | exact HB.out | apply below_alloc | apply pw_below_drewN | apply below_drew1) | exact HB.out))) : w.heap.size ≤ gb101)); clear HB; have HB := n0_; have BK101 := n1_; have GW101 := n2_; have GE101 := n3_; clear n0_ n1_ n2_ n3_; clear hb hbox hg; have hcz12_0 : w11.cell? ⟨gb101, 0, none⟩ = some (.int .i64 a0_0) := (blk_cell BK101.out 0).trans rfl; have hcz12_1 : w11.cell? ⟨gb101, 1, none⟩ = some (.bool a0_1) := (blk_cell BK101.out 1).trans rfl; have hfz12_0 := blk_frozen BK101.out 0; have hfz12_1 := blk_frozen BK101.out 1))
    go_ret
    exact ⟨by first | rfl | (simp [errW_none, errW_some] <;> rfl) | (simp [*, errW_none, errW_some] <;> rfl), by repeat (first | (with_reducible first | exact HB.out | apply below_alloc | apply pw_below_drewN | apply below_drew1 | refine below_set ?_ GE101.out) | exact HB.out)⟩

/-! ### code_Text: function 14 -/
def code_Text.f (a0_0 : Int) (a0_1 : Bool) : Option (ByteArray × Bool) := some (Cal.codeText a0_0 a0_1)
theorem grown_below (w : World) (k : Nat) (os : Array Obj) : Below w.heap.size w (Go.Sort.grow (w.drewN k) os) := Lib.below_grow _ w (Nat.le_refl _) k os
theorem itoa_code (n : Int) (h0 : 1 ≤ n) (h1 : n ≤ 12) : Lib.itoa (100 + n) = [49, 48 + UInt8.ofNat (n.toNat / 10), 48 + UInt8.ofNat (n.toNat % 10)] := by
  have key : ∀ m : Fin 12, Lib.itoa (100 + ((m.val : Int) + 1)) = [49, 48 + UInt8.ofNat (((m.val : Int) + 1).toNat / 10), 48 + UInt8.ofNat (((m.val : Int) + 1).toNat % 10)] := by decide +kernel
  have := key ⟨(n - 1).toNat, by omega⟩
  rwa [show (((⟨(n - 1).toNat, by omega⟩ : Fin 12).val : Int) + 1) = n by simp; omega] at this
theorem code_Right_ok (n : Int) (l : Bool) : code_Right.f n l = some (Cal.codeOk n l) := by
  unfold code_Right.f Cal.codeOk
  by_cases h1 : n > 0 <;> by_cases h2 : n ≤ 12 <;> by_cases h3 : n = 5 <;> simp [h1, h2, h3]
/-- What a walk holds of its world: elder memory stands; the variables read as laid; a block of a code. -/
structure CBox (w : World) (g : Nat) (n : Int) (l : Bool) (W : World) : Prop where
  below : Below w.heap.size w W
  ge : w.heap.size ≤ g
  glob : GlobS W
  c0 : W.cell? ⟨g, 0, none⟩ = some (.int .i64 n)
  c1 : W.cell? ⟨g, 1, none⟩ = some (.bool l)
theorem CBox.step {w : World} {g : Nat} {n : Int} {l : Bool} {W W' : World} (h : CBox w g n l W) (hb : Below W.heap.size W W') : CBox w g n l W' :=
  ⟨h.below.trans (hb.mono h.below.size), h.ge, h.glob.below hb, (hb.cell (World.block_lt_of_cell? W _ h.c0)).trans h.c0, (hb.cell (World.block_lt_of_cell? W _ h.c1)).trans h.c1⟩
theorem CBox.drew {w : World} {g : Nat} {n : Int} {l : Bool} {W : World} (h : CBox w g n l W) : CBox w g n l W.drew := h.step (below_drew (Below.refl _ _))
theorem CBox.begin {w : World} (HG : GlobS w) (n : Int) (l : Bool) : CBox w w.heap.size n l (w.alloc (.cells #[.int .i64 n, .bool l] 23)) := by
  have hb : Below w.heap.size w (w.alloc (.cells #[.int .i64 n, .bool l] 23)) := (Below.refl _ _).alloc (Nat.le_refl _) _
  refine ⟨hb, Nat.le_refl _, HG.below hb, ?_, ?_⟩ <;> (rw [World.cell?_alloc_at _ _ _ _ (by simp)]; rfl)
theorem text_two (a b c : UInt8) : ((⟨#[77]⟩ : ByteArray) ++ (⟨#[a, b, c]⟩ : ByteArray).extract 1 3) = ⟨#[77, b, c]⟩ := by
  apply ByteArray.ext; simp [ByteArray.data_append, ByteArray.data_extract]
theorem text_three (a b c : UInt8) : ((⟨#[77]⟩ : ByteArray) ++ ((⟨#[a, b, c]⟩ : ByteArray) ++ ⟨#[76]⟩).extract 1 4) = ⟨#[77, b, c, 76]⟩ := by
  apply ByteArray.ext; simp [ByteArray.data_append, ByteArray.data_extract]
set_option maxHeartbeats 4000000 in
set_option maxRecDepth 100000 in
theorem code_Text.calls (a0_0 : Int) (a0_1 : Bool) (r1 : ByteArray) (r2 : Bool) (w : World) (HG : GlobS w) (h : code_Text.f a0_0 a0_1 = some (r1, r2)) :
    Calls Tryd.prog 14 #[.agg #[.int .i64 a0_0, .bool a0_1]] w fun e w' => e = .returned (.tuple #[.string r1, .bool r2]) ∧ Below w.heap.size w w' := by
  have HK := Aside0.mk (CBox.begin HG a0_0 a0_1)
  have HR : Aside0 (∀ W, Calls Tryd.prog 18 #[.agg #[.int .i64 a0_0, .bool a0_1]] W fun e w' => e = .returned (.bool (Cal.codeOk a0_0 a0_1)) ∧ Below W.heap.size W w') := ⟨fun W => code_Right.calls a0_0 a0_1 _ W (code_Right_ok _ _)⟩
  obtain ⟨h1, h2⟩ : (Cal.codeText a0_0 a0_1).1 = r1 ∧ (Cal.codeText a0_0 a0_1).2 = r2 := by
    have := Option.some.inj h; rw [this]; exact ⟨rfl, rfl⟩
  subst h1; subst h2; clear h
  by_cases hc : Cal.codeOk a0_0 a0_1 = true
  · have HRS : Aside0 (1 ≤ a0_0 ∧ a0_0 ≤ 12) := ⟨by rcases Cal.codeOk_cases hc with h | h <;> omega⟩
    have HC := Aside0.mk hc
    rw [hc] at HR
    have e2 : (Cal.codeText a0_0 a0_1).2 = true := (Cal.codeText_ok _ _).trans hc
    have e1 : (Cal.codeText a0_0 a0_1).1 = ⟨(Cal.codeBytes a0_0.toNat a0_1).toArray⟩ := by unfold Cal.codeText; rw [if_pos hc]
    rw [e1, e2]
    have hi : Lib.itoa (100 + a0_0) = [49, 48 + UInt8.ofNat (a0_0.toNat / 10), 48 + UInt8.ofNat (a0_0.toNat % 10)] := itoa_code _ (by have := HRS.out; omega) (by have := HRS.out; omega)
    have HI : Aside0 (∀ W, GlobS W → Calls Tryd.prog 47 #[.int .i64 (100 + a0_0)] W fun e w' => e = .returned (.string ⟨#[49, 48 + UInt8.ofNat (a0_0.toNat / 10), 48 + UInt8.ofNat (a0_0.toNat % 10)]⟩) ∧ Below W.heap.size W w') := ⟨fun W hW => by
      refine (Tryd.strconv_Itoa (100 + a0_0) (by have := HRS.out; omega) (by have := HRS.out; omega) W hW.tab).mono ?_
      rintro e w' ⟨rfl, k, os, rfl⟩
      rw [hi]
      exact ⟨rfl, grown_below _ _ _⟩⟩
    have hw : IntKind.i64.wrap (100 + a0_0) = 100 + a0_0 := IntWalk.i64_in _ (by have := HRS.out; omega)
    clear hi hc e1 e2 HG
    go_enter Tryd.func14, Tryd.ntmps14
    go_wp2_with fail
    refine (HR.out _).mono ?_
    rintro e W1 ⟨rfl, hb⟩
    have HK1 := Aside0.mk (HK.out.step hb)
    have hc0 := HK1.out.c0
    have hc1 := HK1.out.c1
    clear hb
    go_wp2_with fail
    refine (HI.out _ HK1.out.glob).mono ?_
    rintro e W2 ⟨rfl, hb⟩
    have HK2 := Aside0.mk (HK1.out.step hb)
    have hd0 := HK2.out.c0
    have hd1 := HK2.out.c1
    clear hb hc0 hc1
    cases a0_1
    · go_wp2_with fail
      go_ret2
      exact ⟨by rw [text_two]; rfl, HK2.out.below⟩
    · go_wp2_with fail
      go_ret2
      exact ⟨by rw [text_three]; rfl, HK2.out.below⟩
  · have hc' : Cal.codeOk a0_0 a0_1 = false := by simpa using hc
    have e1 : Cal.codeText a0_0 a0_1 = (⟨#[]⟩, false) := by unfold Cal.codeText; rw [if_neg hc]
    rw [hc'] at HR
    rw [e1]
    clear e1 hc hc' HG
    go_enter Tryd.func14, Tryd.ntmps14
    go_wp2_with fail
    refine (HR.out _).mono ?_
    rintro e W1 ⟨rfl, hb⟩
    have HK1 := Aside0.mk (HK.out.step hb)
    clear hb
    go_wp2_with fail
    go_ret2
    exact ⟨rfl, HK1.out.below⟩

/-! ### code_Read: function 16 -/
def code_Read.f (a0 : ByteArray) : Option (Int × Bool × Bool) := if a0.size ≤ 281474976710656 then some (Cal.codeRead a0) else none
set_option maxHeartbeats 4000000 in
set_option maxRecDepth 100000 in
theorem code_Read.calls (a0 : ByteArray) (r1 : Int) (r2 : Bool) (r3 : Bool) (w : World) (HG : GlobS w) (h : code_Read.f a0 = some (r1, r2, r3)) :
    Calls Tryd.prog 16 #[.string a0] w fun e w' => e = .returned (.tuple #[.agg #[.int .i64 r1, .bool r2], .bool r3]) ∧ Below w.heap.size w w' := by
  have hsz : a0.size ≤ 281474976710656 := by unfold code_Read.f at h; split at h <;> first | assumption | cases h
  rw [code_Read.f, if_pos hsz] at h
  have h' := Option.some.inj h
  clear h
  have HP : Aside0 (∀ W, Calls Tryd.prog 49 #[.string a0, .string ⟨#[77]⟩] W fun e w' => e = .returned (.string ⟨(Lib.trimPrefix a0.data.toList [77]).toArray⟩) ∧ W = w') := ⟨fun W => (Tryd.strings_TrimPrefix a0 ⟨#[77]⟩ W).mono fun e w' h => ⟨h.1, h.2.symm⟩⟩
  generalize hd : Lib.trimPrefix a0.data.toList [77] = d at HP
  have hdl : d.length ≤ 281474976710656 := by
    have e : a0.data.toList.length = a0.size := Array.length_toList
    rw [← hd, Lib.trimPrefix]
    split <;> (try simp only [List.length_drop]) <;> omega
  have HS : Aside0 (∀ W, Calls Tryd.prog 48 #[.string ⟨d.toArray⟩, .string ⟨#[76]⟩] W fun e w' => e = .returned (.tuple #[.string ⟨(Lib.trimSuffix d [76]).toArray⟩, .bool (Lib.hasSuffix d [76])]) ∧ W = w') := ⟨fun W => (Tryd.strings_CutSuffix ⟨d.toArray⟩ ⟨#[76]⟩ W (by show d.toArray.size ≤ _; simp; omega)).mono fun e w' h => ⟨h.1, h.2.symm⟩⟩
  generalize hq : Lib.trimSuffix d [76] = q at HS
  generalize hl : Lib.hasSuffix d [76] = l at HS
  have hql : q.length ≤ 281474976710656 := by
    rw [← hq, Lib.trimSuffix]
    split <;> (try simp only [List.length_take]) <;> omega
  have HT : Aside0 (∀ n W, GlobS W → Calls Tryd.prog 14 #[.agg #[.int .i64 n, .bool l]] W fun e w' => e = .returned (.tuple #[.string (Cal.codeText n l).1, .bool (Cal.codeText n l).2]) ∧ Below W.heap.size W w') := ⟨fun n W hW => code_Text.calls n l _ _ W hW rfl⟩
  have HG := Aside0.mk HG
  have hcr : ∀ x, Lib.atoiAll q = x → Cal.codeRead a0 = match x with | .ok n => if Cal.codeText n l = (a0, true) then (n, l, true) else (0, false, false) | _ => (0, false, false) := by
    intro x hx; unfold Cal.codeRead; rw [hd, hq, hl, hx]; cases x <;> rfl
  rw [hcr _ rfl] at h'
  clear hcr
  have hBK := heap_alloc_new w (.cells #[.int .i64 0, .bool false] 23)
  have HB := Aside0.mk (below_alloc (Below.refl w.heap.size w) (.cells #[.int .i64 0, .bool false] 23))
  have HBK := Aside0.mk hBK
  have HQL := Aside0.mk hql
  clear hBK hd hq hl hdl hql hsz
  have HE : Aside0 (∀ W, GlobS W → (match Lib.atoiAll q with | .ok n => Calls Tryd.prog 50 #[.string ⟨q.toArray⟩] W fun e w' => e = .returned (.tuple #[.int .i64 n, .nilIface]) ∧ Below W.heap.size W w' | _ => Calls Tryd.prog 50 #[.string ⟨q.toArray⟩] W fun e w' => ∃ n N, e = .returned (.tuple #[.int .i64 n, .iface 144 (.pointer (some ⟨N, 0, none⟩))]) ∧ Below W.heap.size W w')) := ⟨fun W hW => by
    obtain ⟨-, ⟨t2, p2, h2⟩, ⟨t3, p3, h3⟩⟩ := hW
    rcases hx : Lib.atoiAll q with n | _ | _
    · refine (Tryd.strconv_Atoi_ok ⟨q.toArray⟩ (by show q.toArray.size ≤ _; have := HQL.out; simp; omega) n hx W).mono ?_
      rintro e w' ⟨rfl, rfl | ⟨t, rfl⟩⟩
      · exact ⟨rfl, Below.refl _ _⟩
      · exact ⟨rfl, Lib.bytesWorld_below _ _ _⟩
    · refine (Tryd.strconv_Atoi_syntax_var ⟨q.toArray⟩ (by show q.toArray.size ≤ _; have := HQL.out; simpa using this) (fun v h => by rw [show Lib.atoiAll (⟨q.toArray⟩ : ByteArray).data.toList = Lib.atoiAll q from rfl, hx] at h; cases h) (fun h => by rw [show Lib.atoiAll (⟨q.toArray⟩ : ByteArray).data.toList = Lib.atoiAll q from rfl, hx] at h; cases h) t2 p2 W h2).mono ?_
      rintro e w' ⟨N, rfl, _, _, hb⟩
      exact ⟨_, N, rfl, hb⟩
    · refine (Tryd.strconv_Atoi_range_var ⟨q.toArray⟩ (by show q.toArray.size ≤ _; have := HQL.out; simpa using this) hx t3 p3 W h3).mono ?_
      rintro e w' ⟨N, rfl, _, _, hb⟩
      exact ⟨_, N, rfl, hb⟩⟩
  clear HQL
  by_cases hok : ∃ n, Lib.atoiAll q = .ok n
  · obtain ⟨n, hn⟩ := hok
    rw [hn] at h' HE
    have HE1 : Aside0 (∀ W, GlobS W → Calls Tryd.prog 50 #[.string ⟨q.toArray⟩] W fun e w' => e = .returned (.tuple #[.int .i64 n, .nilIface]) ∧ Below W.heap.size W w') := ⟨HE.out⟩
    have h'' : (if Cal.codeText n l = (a0, true) then (n, l, true) else (0, false, false)) = (r1, r2, r3) := h'
    clear h' HE hn
    obtain ⟨t, ok, hct⟩ : ∃ t ok, Cal.codeText n l = (t, ok) := ⟨_, _, rfl⟩
    rw [hct] at h''
    have HT1 : Aside0 (∀ W, GlobS W → Calls Tryd.prog 14 #[.agg #[.int .i64 n, .bool l]] W fun e w' => e = .returned (.tuple #[.string t, .bool ok]) ∧ Below W.heap.size W w') := ⟨by have := HT.out n; rw [hct] at this; exact this⟩
    clear HT hct
    by_cases hcase : ok = true ∧ t = a0
    · obtain ⟨rfl, rfl⟩ := hcase
      rw [if_pos rfl] at h''
      simp only [Prod.mk.injEq] at h''
      obtain ⟨rfl, rfl, rfl⟩ := h''
      go_enter Tryd.func16, Tryd.ntmps16
      go_wp2_with (first | (go_at_call 49; refine (HP.out _).mono ?_; rintro e w' ⟨rfl, rfl⟩) | (go_at_call 48; refine (HS.out _).mono ?_; rintro e w' ⟨rfl, rfl⟩))
      refine (HE1.out _ (HG.out.below HB.out)).mono ?_
      rintro e W1 ⟨rfl, hb⟩
      have HBK1 := Aside0.mk (blk_below HBK.out hb)
      have HB1 := Aside0.mk (HB.out.trans (hb.mono HB.out.size))
      have HG1 := Aside0.mk ((HG.out.below HB.out).below hb)
      have hz0 : W1.cell? ⟨w.heap.size, 0, none⟩ = some (.int .i64 0) := (blk_cell HBK1.out 0).trans rfl
      have hz1 : W1.cell? ⟨w.heap.size, 1, none⟩ = some (.bool false) := (blk_cell HBK1.out 1).trans rfl
      have hy0 := blk_frozen HBK1.out 0
      have hy1 := blk_frozen HBK1.out 1
      clear hb
      go_wp2_with fail
      have hb2 := below_alloc (Below.refl W1.heap.size W1) (.cells #[.int .i64 n, .bool l] 23)
      refine (HT1.out _ (HG1.out.below hb2)).mono ?_
      rintro e W2 ⟨rfl, hb⟩
      have HBK2 := Aside0.mk (blk_below (blk_alloc HBK1.out _) hb)
      have HCK2 := Aside0.mk (blk_below (blk_new W1 (.cells #[.int .i64 n, .bool l] 23)) hb)
      have HB2 := Aside0.mk (HB1.out.trans ((hb2.trans (hb.mono hb2.size)).mono HB1.out.size))
      have hx0 : W2.cell? ⟨w.heap.size, 0, none⟩ = some (.int .i64 0) := (blk_cell HBK2.out 0).trans rfl
      have hx1 : W2.cell? ⟨w.heap.size, 1, none⟩ = some (.bool false) := (blk_cell HBK2.out 1).trans rfl
      have hv0 := blk_frozen HBK2.out 0
      have hv1 := blk_frozen HBK2.out 1
      have hu0 : W2.cell? ⟨W1.heap.size, 0, none⟩ = some (.int .i64 n) := (blk_cell HCK2.out 0).trans rfl
      have hu1 : W2.cell? ⟨W1.heap.size, 1, none⟩ = some (.bool l) := (blk_cell HCK2.out 1).trans rfl
      clear hz0 hz1 hy0 hy1 hb hb2
      go_wp2_with fail
      refine bodyPost_ret (results_ct rfl _ _ w.heap.size 23 #[.int .i64 n, .bool l] (0, 0) _ rfl (blk_put (blk_put HBK2.out 0 _ rfl) 1 _ rfl) Tryd.underlying23 rfl (by kernel_rfl)) rfl ?_
      exact ⟨rfl, ((HB2.out).setCell (p := ⟨w.heap.size, 0, none⟩) (Nat.le_refl _) _).setCell (p := ⟨w.heap.size, 1, none⟩) (Nat.le_refl _) _⟩
    · have h3 : (0, false, false) = (r1, r2, r3) := by
        rw [if_neg (by intro h; simp only [Prod.mk.injEq] at h; exact hcase ⟨h.2, h.1⟩)] at h''; exact h''
      simp only [Prod.mk.injEq] at h3
      obtain ⟨rfl, rfl, rfl⟩ := h3
      clear h''
      go_enter Tryd.func16, Tryd.ntmps16
      go_wp2_with (first | (go_at_call 49; refine (HP.out _).mono ?_; rintro e w' ⟨rfl, rfl⟩) | (go_at_call 48; refine (HS.out _).mono ?_; rintro e w' ⟨rfl, rfl⟩))
      refine (HE1.out _ (HG.out.below HB.out)).mono ?_
      rintro e W1 ⟨rfl, hb⟩
      have HBK1 := Aside0.mk (blk_below HBK.out hb)
      have HB1 := Aside0.mk (HB.out.trans (hb.mono HB.out.size))
      have HG1 := Aside0.mk ((HG.out.below HB.out).below hb)
      have hz0 : W1.cell? ⟨w.heap.size, 0, none⟩ = some (.int .i64 0) := (blk_cell HBK1.out 0).trans rfl
      have hz1 : W1.cell? ⟨w.heap.size, 1, none⟩ = some (.bool false) := (blk_cell HBK1.out 1).trans rfl
      have hy0 := blk_frozen HBK1.out 0
      have hy1 := blk_frozen HBK1.out 1
      clear hb
      go_wp2_with fail
      have hb2 := below_alloc (Below.refl W1.heap.size W1) (.cells #[.int .i64 n, .bool l] 23)
      refine (HT1.out _ (HG1.out.below hb2)).mono ?_
      rintro e W2 ⟨rfl, hb⟩
      have HBK2 := Aside0.mk (blk_below (blk_alloc HBK1.out _) hb)
      have HCK2 := Aside0.mk (blk_below (blk_new W1 (.cells #[.int .i64 n, .bool l] 23)) hb)
      have HB2 := Aside0.mk (HB1.out.trans ((hb2.trans (hb.mono hb2.size)).mono HB1.out.size))
      have hx0 : W2.cell? ⟨w.heap.size, 0, none⟩ = some (.int .i64 0) := (blk_cell HBK2.out 0).trans rfl
      have hx1 : W2.cell? ⟨w.heap.size, 1, none⟩ = some (.bool false) := (blk_cell HBK2.out 1).trans rfl
      have hv0 := blk_frozen HBK2.out 0
      have hv1 := blk_frozen HBK2.out 1
      have hu0 : W2.cell? ⟨W1.heap.size, 0, none⟩ = some (.int .i64 n) := (blk_cell HCK2.out 0).trans rfl
      have hu1 : W2.cell? ⟨W1.heap.size, 1, none⟩ = some (.bool l) := (blk_cell HCK2.out 1).trans rfl
      clear hz0 hz1 hy0 hy1 hb hb2
      cases ok
      · go_wp2_with fail
        refine bodyPost_ret (results_ct rfl _ _ w.heap.size 23 #[.int .i64 0, .bool false] (0, 0) _ rfl (blk_put (blk_put HBK2.out 0 _ rfl) 1 _ rfl) Tryd.underlying23 rfl (by kernel_rfl)) rfl ?_
        exact ⟨rfl, ((HB2.out).setCell (p := ⟨w.heap.size, 0, none⟩) (Nat.le_refl _) _).setCell (p := ⟨w.heap.size, 1, none⟩) (Nat.le_refl _) _⟩
      · have ht : (t.toList == a0.toList) = false := by
          rw [beq_eq_false_iff_ne]; intro h; refine hcase ⟨rfl, ByteArray.ext ?_⟩
          rw [Lib.toList_data, Lib.toList_data] at h
          exact Array.toList_inj.1 h
        clear hcase
        go_wp2_with fail
        refine bodyPost_ret (results_ct rfl _ _ w.heap.size 23 #[.int .i64 0, .bool false] (0, 0) _ rfl (blk_put (blk_put HBK2.out 0 _ rfl) 1 _ rfl) Tryd.underlying23 rfl (by kernel_rfl)) rfl ?_
        exact ⟨rfl, ((HB2.out).setCell (p := ⟨w.heap.size, 0, none⟩) (Nat.le_refl _) _).setCell (p := ⟨w.heap.size, 1, none⟩) (Nat.le_refl _) _⟩
  · have h'' : (0, false, false) = (r1, r2, r3) := by
      rcases hx : Lib.atoiAll q with n | _ | _
      · exact absurd ⟨n, hx⟩ hok
      · rw [hx] at h'; exact h'
      · rw [hx] at h'; exact h'
    have HE2 : Aside0 (∀ W, GlobS W → Calls Tryd.prog 50 #[.string ⟨q.toArray⟩] W fun e w' => ∃ n N, e = .returned (.tuple #[.int .i64 n, .iface 144 (.pointer (some ⟨N, 0, none⟩))]) ∧ Below W.heap.size W w') := ⟨fun W hW => by
      have := HE.out W hW
      rcases hx : Lib.atoiAll q with n | _ | _
      · exact absurd ⟨n, hx⟩ hok
      · rw [hx] at this; exact this
      · rw [hx] at this; exact this⟩
    clear h' hok HE
    simp only [Prod.mk.injEq] at h''
    obtain ⟨rfl, rfl, rfl⟩ := h''
    go_enter Tryd.func16, Tryd.ntmps16
    go_wp2_with (first | (go_at_call 49; refine (HP.out _).mono ?_; rintro e w' ⟨rfl, rfl⟩) | (go_at_call 48; refine (HS.out _).mono ?_; rintro e w' ⟨rfl, rfl⟩))
    refine (HE2.out _ (HG.out.below HB.out)).mono ?_
    rintro e W1 ⟨n, N, rfl, hb⟩
    have HBK1 := Aside0.mk (blk_below HBK.out hb)
    have HB1 := Aside0.mk (HB.out.trans (hb.mono HB.out.size))
    have hz0 := (blk_cell HBK1.out 0).trans rfl
    have hz1 := (blk_cell HBK1.out 1).trans rfl
    have hy0 := blk_frozen HBK1.out 0
    have hy1 := blk_frozen HBK1.out 1
    clear hb
    go_wp2_with fail
    refine bodyPost_ret (results_ct rfl _ _ w.heap.size 23 #[.int .i64 0, .bool false] (0, 0) _ rfl (blk_put (blk_put HBK1.out 0 _ rfl) 1 _ rfl) Tryd.underlying23 rfl (by kernel_rfl)) rfl ?_
    exact ⟨rfl, ((HB1.out).setCell (p := ⟨w.heap.size, 0, none⟩) (Nat.le_refl _) _).setCell (p := ⟨w.heap.size, 1, none⟩) (Nat.le_refl _) _⟩

/-! ### code_Place: function 24 -/
def code_Place.j0 : Nat → Bool → Bool → Int → Bool → Option (Int × Bool)
  | 0, _, _, _, _ => none
  | k + 1, x0, x6, x103000, x103001 => if x6 = true then (some (0, false)) else (if x0 = true then (if x103001 = true then (some (wrap64 (x103000 + 1), true)) else (if x103000 > 5 then (some (wrap64 (x103000 + 1), true)) else (some (x103000, true)))) else (some (x103000, true)))
def code_Place.f (k : Nat) (a0 : Bool) (a1_0 : Int) (a1_1 : Bool) : Option (Int × Bool) := (code_Right.f a1_0 a1_1).bind fun t103 => (if t103 = true then (if a1_1 = true then (code_Place.j0 k a0 (!a0) a1_0 a1_1) else (code_Place.j0 k a0 false a1_0 a1_1)) else (code_Place.j0 k a0 true a1_0 a1_1))
theorem code_Place.mono_l : ∀ k, (∀ y0 y1 y2 y3, LeO (code_Place.j0 k y0 y1 y2 y3) (code_Place.j0 (k + 1) y0 y1 y2 y3))
  | 0 => fun _ _ _ _ r h => by simp [code_Place.j0] at h
  | k + 1 => by
    have ih0 := code_Place.mono_l k
    · intro y0 y1 y2 y3
      unfold code_Place.j0
      repeat' first
      | (with_reducible exact ih0 _ _ _ _)
      | (with_reducible exact LeO.refl _)
      | (with_reducible exact LeO.none _)
      | (with_reducible refine LeO.ite ?_ ?_)
      | (with_reducible refine LeO.bind ?_ (fun _ => ?_))
      | exact ih0 _ _ _ _
      | exact LeO.none _
      | refine LeO.ite ?_ ?_
      | refine LeO.bind ?_ (fun _ => ?_)
theorem code_Place.mono : ∀ a0 a1 a2 k, LeO (code_Place.f k a0 a1 a2) (code_Place.f (k + 1) a0 a1 a2) := by
  intro a0 a1 a2 k
  have ih0 := code_Place.mono_l k
  unfold code_Place.f
  repeat' first
      | (with_reducible exact ih0 _ _ _ _)
      | (with_reducible exact LeO.refl _)
      | (with_reducible exact LeO.none _)
      | (with_reducible refine LeO.ite ?_ ?_)
      | (with_reducible refine LeO.bind ?_ (fun _ => ?_))
      | exact ih0 _ _ _ _
      | exact LeO.none _
      | refine LeO.ite ?_ ?_
      | refine LeO.bind ?_ (fun _ => ?_)
set_option maxHeartbeats 8000000 in
set_option maxRecDepth 100000 in
theorem code_Place.calls (k : Nat) (a0 : Bool) (a1_0 : Int) (a1_1 : Bool) (r1 : Int) (r2 : Bool) (w : World) (h : code_Place.f k a0 a1_0 a1_1 = some (r1, r2)) :
    Calls Tryd.prog 24 #[.bool a0, .agg #[.int .i64 a1_0, .bool a1_1]] w fun e w' => e = .returned (.tuple #[.int .i64 r1, .bool r2]) ∧ Below w.heap.size w w' := by
  have hu23 := Tryd.underlying23
  have HB := Aside0.mk (Below.refl w.heap.size w)
  have H : ((code_Right.f a1_0 a1_1).bind fun t103 => (if t103 = true then (if a1_1 = true then (code_Place.j0 k a0 (!a0) a1_0 a1_1) else (code_Place.j0 k a0 false a1_0 a1_1)) else (code_Place.j0 k a0 true a1_0 a1_1))) = some (r1, r2) := h
  clear h
  have HC3 := Aside0.mk H
  clear H
  go_enter Tryd.func24, Tryd.ntmps24
  go_upto_region 1 with (first | ((with_reducible refine gate_dst (N := 3) rfl ?_); refine box_event ?hg (N := 3) ?hd (cs := #[.int .i64 a1_0, .bool a1_1]) (t := 23) ?hr ?_; (case hd => rfl); (case hg => rfl); (case hr => first | (go_simp; done) | (go_simp; rfl)); intro gb102 hg w4 hbox hb; have n0_ := Aside0.mk (below_step (by repeat (first | (with_reducible first | exact HB.out | apply below_alloc | apply pw_below_drewN | apply below_drew1) | exact HB.out)) hb); have n1_ := Aside0.mk (hbox); have n2_ := Aside0.mk ((by rw [hg]; exact (below_size (by repeat (first | (with_reducible first | exact HB.out | apply below_alloc | apply pw_below_drewN | apply below_drew1) | exact HB.out))) : w.heap.size ≤ gb102)); have n3_ := Aside0.mk ((by rw [hg]; exact (below_size (by repeat (first | (with_reducible first | exact HB.out | apply below_alloc | apply pw_below_drewN | apply below_drew1) | exact HB.out))) : w.heap.size ≤ gb102)); clear HB; have HB := n0_; have BK102 := n1_; have GW102 := n2_; have GE102 := n3_; clear n0_ n1_ n2_ n3_; clear hb hbox hg))
  (try simp only [Act.put, List.setIfInBounds_toArray, List.set_cons_zero, List.set_cons_succ])
  go_cut [6] (fun v6 wc => ∃ (kq : Nat) (x6_2 : Bool), v6 = .bool x6_2 ∧ Aside0 (code_Place.j0 kq a0 x6_2 a1_0 a1_1 = some (r1, r2)) ∧ Aside0 (kq ≤ k) ∧ Aside0 (wc.heap[gb102]? = some (.cells #[.int .i64 a1_0, .bool a1_1] 23 (0, 0))) ∧ Aside0 (Below w.heap.size w wc))
  case first =>
    have H := HC3.out
    clear HC3
    replace H := Option.bind_eq_some_iff.mp H
    obtain ⟨t103, A50, H⟩ := H
    replace H : (if t103 = true then (if a1_1 = true then (code_Place.j0 k a0 (!a0) a1_0 a1_1) else (code_Place.j0 k a0 false a1_0 a1_1)) else (code_Place.j0 k a0 true a1_0 a1_1)) = some (r1, r2) := H
    have A5 := Aside0.mk A50
    clear A50
    by_cases c6 : t103 = true
    · subst c6
      have H1 : (if a1_1 = true then (code_Place.j0 k a0 (!a0) a1_0 a1_1) else (code_Place.j0 k a0 false a1_0 a1_1)) = some (r1, r2) := by rw [if_pos rfl] at H; exact H
      clear H
      have H := H1
      clear H1
      by_cases c7 : a1_1 = true
      · subst c7
        have H1 : (code_Place.j0 k a0 (!a0) a1_0 true) = some (r1, r2) := by rw [if_pos rfl] at H; exact H
        clear H
        have H := H1
        clear H1
        have H' := Aside0.mk H
        clear H
        have hcz8_0 : w4.cell? ⟨gb102, 0, none⟩ = some (.int .i64 a1_0) := (blk_cell BK102.out 0).trans rfl
        have hcz8_1 : w4.cell? ⟨gb102, 1, none⟩ = some (.bool true) := (blk_cell BK102.out 1).trans rfl
        have hfz8_0 := blk_frozen BK102.out 0
        have hfz8_1 := blk_frozen BK102.out 1
        go_wp2_with (first | ((with_reducible refine gate_callee (f := 18) rfl ?_); refine goesL_ (some 8) rfl rfl Tryd.func18 (by kernel_rfl) rfl #[.agg #[.int .i64 a1_0, .bool true]] rfl (by (try simp only [List.map_toArray, List.map_cons, List.map_nil]); first | done | rfl | (simp only [List.length_drop, List.length_take]; rfl)) ?_; (with_reducible refine (code_Right.calls a1_0 true true _ A5.out).mono ?_); rintro e w9 ⟨rfl, hb⟩; refine ⟨_, rfl, ?_⟩; have n0_ := Aside0.mk (blk_below (g := gb102) (o := .cells #[.int .i64 a1_0, .bool true] 23 (0, 0)) (by (with_reducible repeat (first | refine blk_drewN ?_ _ | refine blk_drew ?_ | refine blk_alloc ?_ _)); exact BK102.out) hb); have n1_ := Aside0.mk (below_step (by repeat (first | (with_reducible first | exact HB.out | apply below_alloc | apply pw_below_drewN | apply below_drew1 | refine below_set ?_ GE102.out) | exact HB.out)) hb); clear BK102; clear HB; have BK102 := n0_; have HB := n1_; clear n0_ n1_; (try clear hb); (try clear hb2); (try clear hk); (try clear hi); have hcz10_0 : w9.cell? ⟨gb102, 0, none⟩ = some (.int .i64 a1_0) := (blk_cell BK102.out 0).trans rfl; have hcz10_1 : w9.cell? ⟨gb102, 1, none⟩ = some (.bool true) := (blk_cell BK102.out 1).trans rfl; have hfz10_0 := blk_frozen BK102.out 0; have hfz10_1 := blk_frozen BK102.out 1))
        go_meet
        case rel => exact ⟨_, (!a0), (by first | rfl | (simp; done) | (simp [*]; done)), H', ⟨by first | omega | exact Nat.le_refl _⟩, ⟨by (with_reducible repeat (first | refine blk_drewN ?_ _ | refine blk_drew ?_ | refine blk_alloc ?_ _)); exact BK102.out⟩, ⟨by repeat (first | (with_reducible first | exact HB.out | apply below_alloc | apply pw_below_drewN | apply below_drew1 | refine below_set ?_ GE102.out) | exact HB.out)⟩⟩
      · replace c7 := Bool.eq_false_iff.mpr c7
        subst c7
        have H1 : (code_Place.j0 k a0 false a1_0 false) = some (r1, r2) := by rw [if_neg (show ¬ (false = true) by decide)] at H; exact H
        clear H
        have H := H1
        clear H1
        have H' := Aside0.mk H
        clear H
        have hcz11_0 : w4.cell? ⟨gb102, 0, none⟩ = some (.int .i64 a1_0) := (blk_cell BK102.out 0).trans rfl
        have hcz11_1 : w4.cell? ⟨gb102, 1, none⟩ = some (.bool false) := (blk_cell BK102.out 1).trans rfl
        have hfz11_0 := blk_frozen BK102.out 0
        have hfz11_1 := blk_frozen BK102.out 1
        go_wp2_with (first | ((with_reducible refine gate_callee (f := 18) rfl ?_); refine goesL_ (some 8) rfl rfl Tryd.func18 (by kernel_rfl) rfl #[.agg #[.int .i64 a1_0, .bool false]] rfl (by (try simp only [List.map_toArray, List.map_cons, List.map_nil]); first | done | rfl | (simp only [List.length_drop, List.length_take]; rfl)) ?_; (with_reducible refine (code_Right.calls a1_0 false true _ A5.out).mono ?_); rintro e w12 ⟨rfl, hb⟩; refine ⟨_, rfl, ?_⟩; have n0_ := Aside0.mk (blk_below (g := gb102) (o := .cells #[.int .i64 a1_0, .bool false] 23 (0, 0)) (by (with_reducible repeat (first | refine blk_drewN ?_ _ | refine blk_drew ?_ | refine blk_alloc ?_ _)); exact BK102.out) hb); have n1_ := Aside0.mk (below_step (by repeat (first | (with_reducible first | exact HB.out | apply below_alloc | apply pw_below_drewN | apply below_drew1 | refine below_set ?_ GE102.out) | exact HB.out)) hb); clear BK102; clear HB; have BK102 := n0_; have HB := n1_; clear n0_ n1_; (try clear hb); (try clear hb2); (try clear hk); (try clear hi); have hcz13_0 : w12.cell? ⟨gb102, 0, none⟩ = some (.int .i64 a1_0) := (blk_cell BK102.out 0).trans rfl; have hcz13_1 : w12.cell? ⟨gb102, 1, none⟩ = some (.bool false) := (blk_cell BK102.out 1).trans rfl; have hfz13_0 := blk_frozen BK102.out 0; have hfz13_1 := blk_frozen BK102.out 1))
        go_meet
        case rel => exact ⟨_, (false), (by first | rfl | (simp; done) | (simp [*]; done)), H', ⟨by first | omega | exact Nat.le_refl _⟩, ⟨by (with_reducible repeat (first | refine blk_drewN ?_ _ | refine blk_drew ?_ | refine blk_alloc ?_ _)); exact BK102.out⟩, ⟨by repeat (first | (with_reducible first | exact HB.out | apply below_alloc | apply pw_below_drewN | apply below_drew1 | refine below_set ?_ GE102.out) | exact HB.out)⟩⟩
    · replace c6 := Bool.eq_false_iff.mpr c6
      subst c6
      have H1 : (code_Place.j0 k a0 true a1_0 a1_1) = some (r1, r2) := by rw [if_neg (show ¬ (false = true) by decide)] at H; exact H
      clear H
      have H := H1
      clear H1
      have H' := Aside0.mk H
      clear H
      have hcz14_0 : w4.cell? ⟨gb102, 0, none⟩ = some (.int .i64 a1_0) := (blk_cell BK102.out 0).trans rfl
      have hcz14_1 : w4.cell? ⟨gb102, 1, none⟩ = some (.bool a1_1) := (blk_cell BK102.out 1).trans rfl
      have hfz14_0 := blk_frozen BK102.out 0
      have hfz14_1 := blk_frozen BK102.out 1
      go_wp2_with (first | ((with_reducible refine gate_callee (f := 18) rfl ?_); refine goesL_ (some 8) rfl rfl Tryd.func18 (by kernel_rfl) rfl #[.agg #[.int .i64 a1_0, .bool a1_1]] rfl (by (try simp only [List.map_toArray, List.map_cons, List.map_nil]); first | done | rfl | (simp only [List.length_drop, List.length_take]; rfl)) ?_; (with_reducible refine (code_Right.calls a1_0 a1_1 false _ A5.out).mono ?_); rintro e w15 ⟨rfl, hb⟩; refine ⟨_, rfl, ?_⟩; have n0_ := Aside0.mk (blk_below (g := gb102) (o := .cells #[.int .i64 a1_0, .bool a1_1] 23 (0, 0)) (by (with_reducible repeat (first | refine blk_drewN ?_ _ | refine blk_drew ?_ | refine blk_alloc ?_ _)); exact BK102.out) hb); have n1_ := Aside0.mk (below_step (by repeat (first | (with_reducible first | exact HB.out | apply below_alloc | apply pw_below_drewN | apply below_drew1 | refine below_set ?_ GE102.out) | exact HB.out)) hb); clear BK102; clear HB; have BK102 := n0_; have HB := n1_; clear n0_ n1_; (try clear hb); (try clear hb2); (try clear hk); (try clear hi)))
      go_meet
      case rel => exact ⟨_, (true), (by first | rfl | (simp; done) | (simp [*]; done)), H', ⟨by first | omega | exact Nat.le_refl _⟩, ⟨by (with_reducible repeat (first | refine blk_drewN ?_ _ | refine blk_drew ?_ | refine blk_alloc ?_ _)); exact BK102.out⟩, ⟨by repeat (first | (with_reducible first | exact HB.out | apply below_alloc | apply pw_below_drewN | apply below_drew1 | refine below_set ?_ GE102.out) | exact HB.out)⟩⟩
  case rest =>
    clear HC3
    try clear c1
    try clear c2
    try clear p2
    try clear c6
    try clear c7
    try clear hcz10_0
    try clear hcz10_1
    try clear hcz11_0
    try clear hcz11_1
    try clear hcz13_0
    try clear hcz13_1
    try clear hcz14_0
    try clear hcz14_1
    try clear hcz8_0
    try clear hcz8_1
    try clear hfz10_0
    try clear hfz10_1
    try clear hfz11_0
    try clear hfz11_1
    try clear hfz13_0
    try clear hfz13_1
    try clear hfz14_0
    try clear hfz14_1
    try clear hfz8_0
    try clear hfz8_1
    obtain ⟨kq, x6_2, rfl, HA, HJ2, BK102, HB⟩ := hcut
    cases kq with
    | zero => exact absurd HA.out (by simp [code_Place.j0])
    | succ kj2 =>
      have H := HA.out
      clear HA
      simp only [code_Place.j0] at H
      by_cases c16 : x6_2 = true
      · subst c16
        have H1 : (some (0, false)) = some (r1, r2) := by rw [if_pos rfl] at H; exact H
        clear H
        have H := H1
        clear H1
        simp only [Option.some.injEq, Prod.mk.injEq] at H
        obtain ⟨rfl, rfl⟩ := H
        go_wp2
        go_ret2
        exact ⟨by first | rfl | (simp [errW_none, errW_some] <;> rfl) | (simp [*, errW_none, errW_some] <;> rfl), by repeat (first | (with_reducible first | exact HB.out | apply below_alloc | apply pw_below_drewN | apply below_drew1 | refine below_set ?_ GE102.out) | exact HB.out)⟩
      · replace c16 := Bool.eq_false_iff.mpr c16
        subst c16
        have H1 : (if a0 = true then (if a1_1 = true then (some (wrap64 (a1_0 + 1), true)) else (if a1_0 > 5 then (some (wrap64 (a1_0 + 1), true)) else (some (a1_0, true)))) else (some (a1_0, true))) = some (r1, r2) := by rw [if_neg (show ¬ (false = true) by decide)] at H; exact H
        clear H
        have H := H1
        clear H1
        by_cases c17 : a0 = true
        · subst c17
          have H1 : (if a1_1 = true then (some (wrap64 (a1_0 + 1), true)) else (if a1_0 > 5 then (some (wrap64 (a1_0 + 1), true)) else (some (a1_0, true)))) = some (r1, r2) := by rw [if_pos rfl] at H; exact H
          clear H
          have H := H1
          clear H1
          by_cases c18 : a1_1 = true
          · subst c18
            have H1 : (some (wrap64 (a1_0 + 1), true)) = some (r1, r2) := by rw [if_pos rfl] at H; exact H
            clear H
            have H := H1
            clear H1
            simp only [Option.some.injEq, Prod.mk.injEq] at H
            obtain ⟨rfl, rfl⟩ := H
            have hcz19_0 : wc.cell? ⟨gb102, 0, none⟩ = some (.int .i64 a1_0) := (blk_cell BK102.out 0).trans rfl
            have hcz19_1 : wc.cell? ⟨gb102, 1, none⟩ = some (.bool true) := (blk_cell BK102.out 1).trans rfl
            have hfz19_0 := blk_frozen BK102.out 0
            have hfz19_1 := blk_frozen BK102.out 1
            go_wp2
            go_ret2
            exact ⟨by first | rfl | (simp [errW_none, errW_some] <;> rfl) | (simp [*, errW_none, errW_some] <;> rfl), by repeat (first | (with_reducible first | exact HB.out | apply below_alloc | apply pw_below_drewN | apply below_drew1 | refine below_set ?_ GE102.out) | exact HB.out)⟩
          · replace c18 := Bool.eq_false_iff.mpr c18
            subst c18
            have H1 : (if a1_0 > 5 then (some (wrap64 (a1_0 + 1), true)) else (some (a1_0, true))) = some (r1, r2) := by rw [if_neg (show ¬ (false = true) by decide)] at H; exact H
            clear H
            have H := H1
            clear H1
            by_cases c20 : a1_0 > 5
            · rw [if_pos c20] at H
              have c20b0 : decide (5 < a1_0) = true := decide_eq_true c20
              clear c20
              simp only [Option.some.injEq, Prod.mk.injEq] at H
              obtain ⟨rfl, rfl⟩ := H
              have hcz21_0 : wc.cell? ⟨gb102, 0, none⟩ = some (.int .i64 a1_0) := (blk_cell BK102.out 0).trans rfl
              have hcz21_1 : wc.cell? ⟨gb102, 1, none⟩ = some (.bool false) := (blk_cell BK102.out 1).trans rfl
              have hfz21_0 := blk_frozen BK102.out 0
              have hfz21_1 := blk_frozen BK102.out 1
              go_wp2
              go_ret2
              exact ⟨by first | rfl | (simp [errW_none, errW_some] <;> rfl) | (simp [*, errW_none, errW_some] <;> rfl), by repeat (first | (with_reducible first | exact HB.out | apply below_alloc | apply pw_below_drewN | apply below_drew1 | refine below_set ?_ GE102.out) | exact HB.out)⟩
            · rw [if_neg c20] at H
              have c20b0 : decide (5 < a1_0) = false := decide_eq_false c20
              clear c20
              simp only [Option.some.injEq, Prod.mk.injEq] at H
              obtain ⟨rfl, rfl⟩ := H
              have hcz22_0 : wc.cell? ⟨gb102, 0, none⟩ = some (.int .i64 a1_0) := (blk_cell BK102.out 0).trans rfl
              have hcz22_1 : wc.cell? ⟨gb102, 1, none⟩ = some (.bool false) := (blk_cell BK102.out 1).trans rfl
              have hfz22_0 := blk_frozen BK102.out 0
              have hfz22_1 := blk_frozen BK102.out 1
              go_wp2
              go_ret2
              exact ⟨by first | rfl | (simp [errW_none, errW_some] <;> rfl) | (simp [*, errW_none, errW_some] <;> rfl), by repeat (first | (with_reducible first | exact HB.out | apply below_alloc | apply pw_below_drewN | apply below_drew1 | refine below_set ?_ GE102.out) | exact HB.out)⟩
        · replace c17 := Bool.eq_false_iff.mpr c17
          subst c17
          have H1 : (some (a1_0, true)) = some (r1, r2) := by rw [if_neg (show ¬ (false = true) by decide)] at H; exact H
          clear H
          have H := H1
          clear H1
          simp only [Option.some.injEq, Prod.mk.injEq] at H
          obtain ⟨rfl, rfl⟩ := H
          have hcz23_0 : wc.cell? ⟨gb102, 0, none⟩ = some (.int .i64 a1_0) := (blk_cell BK102.out 0).trans rfl
          have hcz23_1 : wc.cell? ⟨gb102, 1, none⟩ = some (.bool a1_1) := (blk_cell BK102.out 1).trans rfl
          have hfz23_0 := blk_frozen BK102.out 0
          have hfz23_1 := blk_frozen BK102.out 1
          go_wp2
          go_ret2
          exact ⟨by first | rfl | (simp [errW_none, errW_some] <;> rfl) | (simp [*, errW_none, errW_some] <;> rfl), by repeat (first | (with_reducible first | exact HB.out | apply below_alloc | apply pw_below_drewN | apply below_drew1 | refine below_set ?_ GE102.out) | exact HB.out)⟩

/-! ### almanackerlaw09_awake: function 13 -/
def almanackerlaw09_awake.f (k : Nat)  : Option (Bool) := (code_Read.f (⟨#[77, 48, 53, 76]⟩ : ByteArray)).bind fun bt104 => ((code_Place.f k true bt104.1 bt104.2.1).bind fun bt108 => ((code_Text.f 12 false).bind fun bt110 => (if bt104.2.2 = true then (if (bt104.1 == 5 && (bt104.2.1)) = true then (if bt108.2 = true then (if bt108.1 = 6 then (if bt110.2 = true then (some (bt110.1.toList == ([77, 49, 50] : List UInt8))) else (some false)) else (some false)) else (some false)) else (some false)) else (some false))))
theorem almanackerlaw09_awake.mono : ∀ k, LeO (almanackerlaw09_awake.f k ) (almanackerlaw09_awake.f (k + 1) ) := by
  intro  k
  unfold almanackerlaw09_awake.f
  repeat' first
      | (with_reducible exact code_Place.mono _ _ _ _)
      | (with_reducible exact LeO.refl _)
      | (with_reducible exact LeO.none _)
      | (with_reducible refine LeO.ite ?_ ?_)
      | (with_reducible refine LeO.bind ?_ (fun _ => ?_))
      | exact code_Place.mono _ _ _ _
      | exact LeO.none _
      | refine LeO.ite ?_ ?_
      | refine LeO.bind ?_ (fun _ => ?_)
set_option maxHeartbeats 8000000 in
set_option maxRecDepth 100000 in
theorem almanackerlaw09_awake.calls (k : Nat)  (r : Bool) (w : World) (HGS : GlobS w) (h : almanackerlaw09_awake.f k  = some r) :
    Calls Tryd.prog 13 #[] w fun e w' => e = .returned (.bool r) ∧ Below w.heap.size w w' := by
  have hu23 := Tryd.underlying23
  have HB := Aside0.mk (Below.refl w.heap.size w)
  have H : ((code_Read.f (⟨#[77, 48, 53, 76]⟩ : ByteArray)).bind fun bt104 => ((code_Place.f k true bt104.1 bt104.2.1).bind fun bt108 => ((code_Text.f 12 false).bind fun bt110 => (if bt104.2.2 = true then (if (bt104.1 == 5 && (bt104.2.1)) = true then (if bt108.2 = true then (if bt108.1 = 6 then (if bt110.2 = true then (some (bt110.1.toList == ([77, 49, 50] : List UInt8))) else (some false)) else (some false)) else (some false)) else (some false)) else (some false))))) = some r := h
  clear h
  replace H := Option.bind_eq_some_iff.mp H
  obtain ⟨⟨t104, t105, t106⟩, A10, H⟩ := H
  replace H : ((code_Place.f k true t104 t105).bind fun bt108 => ((code_Text.f 12 false).bind fun bt110 => (if t106 = true then (if (t104 == 5 && (t105)) = true then (if bt108.2 = true then (if bt108.1 = 6 then (if bt110.2 = true then (some (bt110.1.toList == ([77, 49, 50] : List UInt8))) else (some false)) else (some false)) else (some false)) else (some false)) else (some false)))) = some r := H
  have A1 := Aside0.mk A10
  clear A10
  replace H := Option.bind_eq_some_iff.mp H
  obtain ⟨⟨t108, t109⟩, A20, H⟩ := H
  replace H : ((code_Text.f 12 false).bind fun bt110 => (if t106 = true then (if (t104 == 5 && (t105)) = true then (if t109 = true then (if t108 = 6 then (if bt110.2 = true then (some (bt110.1.toList == ([77, 49, 50] : List UInt8))) else (some false)) else (some false)) else (some false)) else (some false)) else (some false))) = some r := H
  have A2 := Aside0.mk A20
  clear A20
  replace H := Option.bind_eq_some_iff.mp H
  obtain ⟨⟨t110, t111⟩, A30, H⟩ := H
  replace H : (if t106 = true then (if (t104 == 5 && (t105)) = true then (if t109 = true then (if t108 = 6 then (if t111 = true then (some (t110.toList == ([77, 49, 50] : List UInt8))) else (some false)) else (some false)) else (some false)) else (some false)) else (some false)) = some r := H
  have A3 := Aside0.mk A30
  clear A30
  by_cases c4 : t106 = true
  · subst c4
    have H1 : (if (t104 == 5 && (t105)) = true then (if t109 = true then (if t108 = 6 then (if t111 = true then (some (t110.toList == ([77, 49, 50] : List UInt8))) else (some false)) else (some false)) else (some false)) else (some false)) = some r := by rw [if_pos rfl] at H; exact H
    clear H
    have H := H1
    clear H1
    by_cases c5 : (t104 == 5 && (t105)) = true
    · rw [if_pos c5] at H
      have c5b0 : (t104 == 5 && (t105)) = true := c5
      (try (have c5b1 : decide (t104 = 5 && (t105)) = true := by simpa using c5))
      (try (have c5b2 : (t104 == 5 && (t105)) = true := by simpa using c5))
      clear c5
      by_cases c6 : t109 = true
      · subst c6
        have H1 : (if t108 = 6 then (if t111 = true then (some (t110.toList == ([77, 49, 50] : List UInt8))) else (some false)) else (some false)) = some r := by rw [if_pos rfl] at H; exact H
        clear H
        have H := H1
        clear H1
        by_cases c7 : t108 = 6
        · rw [if_pos c7] at H
          have c7b0 : (t108 == 6) = true := beq_iff_eq.mpr c7
          have c7b1 : (t108 != 6) = false := bne_eq_false_iff_eq.mpr c7
          clear c7
          by_cases c8 : t111 = true
          · subst c8
            have H1 : (some (t110.toList == ([77, 49, 50] : List UInt8))) = some r := by rw [if_pos rfl] at H; exact H
            clear H
            have H := H1
            clear H1
            obtain rfl := Option.some.inj H
            go_enter Tryd.func13, Tryd.ntmps13
            go_wp2_with (first | ((with_reducible refine gate_callee (f := 16) rfl ?_); refine goesL_ (some 8) rfl rfl Tryd.func16 (by kernel_rfl) rfl #[.string (⟨#[77, 48, 53, 76]⟩ : ByteArray)] rfl (by (try simp only [List.map_toArray, List.map_cons, List.map_nil]); first | done | rfl | (simp only [List.length_drop, List.length_take]; rfl)) ?_; (with_reducible refine (code_Read.calls (⟨#[77, 48, 53, 76]⟩ : ByteArray) t104 t105 true _ ?side1 A1.out).mono ?_); (case side1 => exact GlobS.below HGS (by repeat (first | (with_reducible first | exact HB.out | apply below_alloc | apply pw_below_drewN | apply below_drew1) | exact HB.out))); rintro e w9 ⟨rfl, hb⟩; refine ⟨_, rfl, ?_⟩; have n0_ := Aside0.mk (below_step (by repeat (first | (with_reducible first | exact HB.out | apply below_alloc | apply pw_below_drewN | apply below_drew1) | exact HB.out)) hb); clear HB; have HB := n0_; clear n0_; (try clear hb); (try clear hb2); (try clear hk); (try clear hi)) | ((with_reducible refine gate_dst (N := 1) rfl ?_); refine box_event ?hg (N := 1) ?hd (cs := #[.int .i64 0, .bool false]) (t := 23) ?hr ?_; (case hd => rfl); (case hg => rfl); (case hr => first | (go_simp; done) | (go_simp; rfl)); intro gb107 hg w10 hbox hb; have n0_ := Aside0.mk (below_step (by repeat (first | (with_reducible first | exact HB.out | apply below_alloc | apply pw_below_drewN | apply below_drew1) | exact HB.out)) hb); have n1_ := Aside0.mk (hbox); have n2_ := Aside0.mk ((by rw [hg]; exact (below_size (by repeat (first | (with_reducible first | exact HB.out | apply below_alloc | apply pw_below_drewN | apply below_drew1) | exact HB.out))) : w.heap.size ≤ gb107)); have n3_ := Aside0.mk ((by rw [hg]; exact (below_size (by repeat (first | (with_reducible first | exact HB.out | apply below_alloc | apply pw_below_drewN | apply below_drew1) | exact HB.out))) : w.heap.size ≤ gb107)); clear HB; have HB := n0_; have BK107 := n1_; have GW107 := n2_; have GE107 := n3_; clear n0_ n1_ n2_ n3_; clear hb hbox hg; have hcz11_0 : w10.cell? ⟨gb107, 0, none⟩ = some (.int .i64 0) := (blk_cell BK107.out 0).trans rfl; have hcz11_1 : w10.cell? ⟨gb107, 1, none⟩ = some (.bool false) := (blk_cell BK107.out 1).trans rfl; have hfz11_0 := blk_frozen BK107.out 0; have hfz11_1 := blk_frozen BK107.out 1) | ((with_reducible refine gate_callee (f := 24) rfl ?_); refine goesL_ (some 13) rfl rfl Tryd.func24 (by kernel_rfl) rfl #[.bool true, .agg #[.int .i64 t104, .bool t105]] rfl (by (try simp only [List.map_toArray, List.map_cons, List.map_nil]); first | done | rfl | (simp only [List.length_drop, List.length_take]; rfl)) ?_; (with_reducible refine (code_Place.calls k true t104 t105 t108 true _ A2.out).mono ?_); rintro e w12 ⟨rfl, hb⟩; refine ⟨_, rfl, ?_⟩; have n0_ := Aside0.mk (blk_below (g := gb107) (o := .cells #[.int .i64 t104, .bool t105] 23 (0, 0)) (by (with_reducible repeat (first | refine blk_drewN ?_ _ | refine blk_drew ?_ | refine blk_alloc ?_ _)); refine blk_put (cs := #[.int .i64 t104, .bool false]) ?_ 1 _ rfl; (with_reducible repeat (first | refine blk_drewN ?_ _ | refine blk_drew ?_ | refine blk_alloc ?_ _)); refine blk_put (cs := #[.int .i64 0, .bool false]) ?_ 0 _ rfl; (with_reducible repeat (first | refine blk_drewN ?_ _ | refine blk_drew ?_ | refine blk_alloc ?_ _)); exact BK107.out) hb); have n1_ := Aside0.mk (below_step (by repeat (first | (with_reducible first | exact HB.out | apply below_alloc | apply pw_below_drewN | apply below_drew1 | refine below_set ?_ GE107.out) | exact HB.out)) hb); clear BK107; clear HB; have BK107 := n0_; have HB := n1_; clear n0_ n1_; (try clear hb); (try clear hb2); (try clear hk); (try clear hi)) | ((with_reducible refine gate_callee (f := 14) rfl ?_); refine goesL_ (some 18) rfl rfl Tryd.func14 (by kernel_rfl) rfl #[.agg #[.int .i64 12, .bool false]] rfl (by (try simp only [List.map_toArray, List.map_cons, List.map_nil]); first | done | rfl | (simp only [List.length_drop, List.length_take]; rfl)) ?_; (with_reducible refine (code_Text.calls 12 false t110 true _ ?side1 A3.out).mono ?_); (case side1 => exact GlobS.below HGS (by repeat (first | (with_reducible first | exact HB.out | apply below_alloc | apply pw_below_drewN | apply below_drew1 | refine below_set ?_ GE107.out) | exact HB.out))); rintro e w13 ⟨rfl, hb⟩; refine ⟨_, rfl, ?_⟩; have n0_ := Aside0.mk (blk_below (g := gb107) (o := .cells #[.int .i64 t104, .bool t105] 23 (0, 0)) (by (with_reducible repeat (first | refine blk_drewN ?_ _ | refine blk_drew ?_ | refine blk_alloc ?_ _)); exact BK107.out) hb); have n1_ := Aside0.mk (below_step (by repeat (first | (with_reducible first | exact HB.out | apply below_alloc | apply pw_below_drewN | apply below_drew1 | refine below_set ?_ GE107.out) | exact HB.out)) hb); clear BK107; clear HB; have BK107 := n0_; have HB := n1_; clear n0_ n1_; (try clear hb); (try clear hb2); (try clear hk); (try clear hi); have hcz14_0 : w13.cell? ⟨gb107, 0, none⟩ = some (.int .i64 t104) := (blk_cell BK107.out 0).trans rfl; have hcz14_1 : w13.cell? ⟨gb107, 1, none⟩ = some (.bool t105) := (blk_cell BK107.out 1).trans rfl; have hfz14_0 := blk_frozen BK107.out 0; have hfz14_1 := blk_frozen BK107.out 1))
            go_ret
            exact ⟨by first | rfl | (simp [errW_none, errW_some] <;> rfl) | (simp [*, errW_none, errW_some] <;> rfl), by repeat (first | (with_reducible first | exact HB.out | apply below_alloc | apply pw_below_drewN | apply below_drew1 | refine below_set ?_ GE107.out) | exact HB.out)⟩
          · replace c8 := Bool.eq_false_iff.mpr c8
            subst c8
            have H1 : (some false) = some r := by rw [if_neg (show ¬ (false = true) by decide)] at H; exact H
            clear H
            have H := H1
            clear H1
            obtain rfl := Option.some.inj H
            go_enter Tryd.func13, Tryd.ntmps13
            go_wp2_with (first | ((with_reducible refine gate_callee (f := 16) rfl ?_); refine goesL_ (some 8) rfl rfl Tryd.func16 (by kernel_rfl) rfl #[.string (⟨#[77, 48, 53, 76]⟩ : ByteArray)] rfl (by (try simp only [List.map_toArray, List.map_cons, List.map_nil]); first | done | rfl | (simp only [List.length_drop, List.length_take]; rfl)) ?_; (with_reducible refine (code_Read.calls (⟨#[77, 48, 53, 76]⟩ : ByteArray) t104 t105 true _ ?side1 A1.out).mono ?_); (case side1 => exact GlobS.below HGS (by repeat (first | (with_reducible first | exact HB.out | apply below_alloc | apply pw_below_drewN | apply below_drew1) | exact HB.out))); rintro e w15 ⟨rfl, hb⟩; refine ⟨_, rfl, ?_⟩; have n0_ := Aside0.mk (below_step (by repeat (first | (with_reducible first | exact HB.out | apply below_alloc | apply pw_below_drewN | apply below_drew1) | exact HB.out)) hb); clear HB; have HB := n0_; clear n0_; (try clear hb); (try clear hb2); (try clear hk); (try clear hi)) | ((with_reducible refine gate_dst (N := 1) rfl ?_); refine box_event ?hg (N := 1) ?hd (cs := #[.int .i64 0, .bool false]) (t := 23) ?hr ?_; (case hd => rfl); (case hg => rfl); (case hr => first | (go_simp; done) | (go_simp; rfl)); intro gb107 hg w16 hbox hb; have n0_ := Aside0.mk (below_step (by repeat (first | (with_reducible first | exact HB.out | apply below_alloc | apply pw_below_drewN | apply below_drew1) | exact HB.out)) hb); have n1_ := Aside0.mk (hbox); have n2_ := Aside0.mk ((by rw [hg]; exact (below_size (by repeat (first | (with_reducible first | exact HB.out | apply below_alloc | apply pw_below_drewN | apply below_drew1) | exact HB.out))) : w.heap.size ≤ gb107)); have n3_ := Aside0.mk ((by rw [hg]; exact (below_size (by repeat (first | (with_reducible first | exact HB.out | apply below_alloc | apply pw_below_drewN | apply below_drew1) | exact HB.out))) : w.heap.size ≤ gb107)); clear HB; have HB := n0_; have BK107 := n1_; have GW107 := n2_; have GE107 := n3_; clear n0_ n1_ n2_ n3_; clear hb hbox hg; have hcz17_0 : w16.cell? ⟨gb107, 0, none⟩ = some (.int .i64 0) := (blk_cell BK107.out 0).trans rfl; have hcz17_1 : w16.cell? ⟨gb107, 1, none⟩ = some (.bool false) := (blk_cell BK107.out 1).trans rfl; have hfz17_0 := blk_frozen BK107.out 0; have hfz17_1 := blk_frozen BK107.out 1) | ((with_reducible refine gate_callee (f := 24) rfl ?_); refine goesL_ (some 13) rfl rfl Tryd.func24 (by kernel_rfl) rfl #[.bool true, .agg #[.int .i64 t104, .bool t105]] rfl (by (try simp only [List.map_toArray, List.map_cons, List.map_nil]); first | done | rfl | (simp only [List.length_drop, List.length_take]; rfl)) ?_; (with_reducible refine (code_Place.calls k true t104 t105 t108 true _ A2.out).mono ?_); rintro e w18 ⟨rfl, hb⟩; refine ⟨_, rfl, ?_⟩; have n0_ := Aside0.mk (blk_below (g := gb107) (o := .cells #[.int .i64 t104, .bool t105] 23 (0, 0)) (by (with_reducible repeat (first | refine blk_drewN ?_ _ | refine blk_drew ?_ | refine blk_alloc ?_ _)); refine blk_put (cs := #[.int .i64 t104, .bool false]) ?_ 1 _ rfl; (with_reducible repeat (first | refine blk_drewN ?_ _ | refine blk_drew ?_ | refine blk_alloc ?_ _)); refine blk_put (cs := #[.int .i64 0, .bool false]) ?_ 0 _ rfl; (with_reducible repeat (first | refine blk_drewN ?_ _ | refine blk_drew ?_ | refine blk_alloc ?_ _)); exact BK107.out) hb); have n1_ := Aside0.mk (below_step (by repeat (first | (with_reducible first | exact HB.out | apply below_alloc | apply pw_below_drewN | apply below_drew1 | refine below_set ?_ GE107.out) | exact HB.out)) hb); clear BK107; clear HB; have BK107 := n0_; have HB := n1_; clear n0_ n1_; (try clear hb); (try clear hb2); (try clear hk); (try clear hi)) | ((with_reducible refine gate_callee (f := 14) rfl ?_); refine goesL_ (some 18) rfl rfl Tryd.func14 (by kernel_rfl) rfl #[.agg #[.int .i64 12, .bool false]] rfl (by (try simp only [List.map_toArray, List.map_cons, List.map_nil]); first | done | rfl | (simp only [List.length_drop, List.length_take]; rfl)) ?_; (with_reducible refine (code_Text.calls 12 false t110 false _ ?side1 A3.out).mono ?_); (case side1 => exact GlobS.below HGS (by repeat (first | (with_reducible first | exact HB.out | apply below_alloc | apply pw_below_drewN | apply below_drew1 | refine below_set ?_ GE107.out) | exact HB.out))); rintro e w19 ⟨rfl, hb⟩; refine ⟨_, rfl, ?_⟩; have n0_ := Aside0.mk (blk_below (g := gb107) (o := .cells #[.int .i64 t104, .bool t105] 23 (0, 0)) (by (with_reducible repeat (first | refine blk_drewN ?_ _ | refine blk_drew ?_ | refine blk_alloc ?_ _)); exact BK107.out) hb); have n1_ := Aside0.mk (below_step (by repeat (first | (with_reducible first | exact HB.out | apply below_alloc | apply pw_below_drewN | apply below_drew1 | refine below_set ?_ GE107.out) | exact HB.out)) hb); clear BK107; clear HB; have BK107 := n0_; have HB := n1_; clear n0_ n1_; (try clear hb); (try clear hb2); (try clear hk); (try clear hi); have hcz20_0 : w19.cell? ⟨gb107, 0, none⟩ = some (.int .i64 t104) := (blk_cell BK107.out 0).trans rfl; have hcz20_1 : w19.cell? ⟨gb107, 1, none⟩ = some (.bool t105) := (blk_cell BK107.out 1).trans rfl; have hfz20_0 := blk_frozen BK107.out 0; have hfz20_1 := blk_frozen BK107.out 1))
            go_ret
            exact ⟨by first | rfl | (simp [errW_none, errW_some] <;> rfl) | (simp [*, errW_none, errW_some] <;> rfl), by repeat (first | (with_reducible first | exact HB.out | apply below_alloc | apply pw_below_drewN | apply below_drew1 | refine below_set ?_ GE107.out) | exact HB.out)⟩
        · rw [if_neg c7] at H
          have c7b0 : (t108 == 6) = false := beq_eq_false_iff_ne.mpr c7
          have c7b1 : (t108 != 6) = true := bne_iff_ne.mpr c7
          obtain rfl := Option.some.inj H
          go_enter Tryd.func13, Tryd.ntmps13
          go_wp2_with (first | ((with_reducible refine gate_callee (f := 16) rfl ?_); refine goesL_ (some 8) rfl rfl Tryd.func16 (by kernel_rfl) rfl #[.string (⟨#[77, 48, 53, 76]⟩ : ByteArray)] rfl (by (try simp only [List.map_toArray, List.map_cons, List.map_nil]); first | done | rfl | (simp only [List.length_drop, List.length_take]; rfl)) ?_; (with_reducible refine (code_Read.calls (⟨#[77, 48, 53, 76]⟩ : ByteArray) t104 t105 true _ ?side1 A1.out).mono ?_); (case side1 => exact GlobS.below HGS (by repeat (first | (with_reducible first | exact HB.out | apply below_alloc | apply pw_below_drewN | apply below_drew1) | exact HB.out))); rintro e w21 ⟨rfl, hb⟩; refine ⟨_, rfl, ?_⟩; have n0_ := Aside0.mk (below_step (by repeat (first | (with_reducible first | exact HB.out | apply below_alloc | apply pw_below_drewN | apply below_drew1) | exact HB.out)) hb); clear HB; have HB := n0_; clear n0_; (try clear hb); (try clear hb2); (try clear hk); (try clear hi)) | ((with_reducible refine gate_dst (N := 1) rfl ?_); refine box_event ?hg (N := 1) ?hd (cs := #[.int .i64 0, .bool false]) (t := 23) ?hr ?_; (case hd => rfl); (case hg => rfl); (case hr => first | (go_simp; done) | (go_simp; rfl)); intro gb107 hg w22 hbox hb; have n0_ := Aside0.mk (below_step (by repeat (first | (with_reducible first | exact HB.out | apply below_alloc | apply pw_below_drewN | apply below_drew1) | exact HB.out)) hb); have n1_ := Aside0.mk (hbox); have n2_ := Aside0.mk ((by rw [hg]; exact (below_size (by repeat (first | (with_reducible first | exact HB.out | apply below_alloc | apply pw_below_drewN | apply below_drew1) | exact HB.out))) : w.heap.size ≤ gb107)); have n3_ := Aside0.mk ((by rw [hg]; exact (below_size (by repeat (first | (with_reducible first | exact HB.out | apply below_alloc | apply pw_below_drewN | apply below_drew1) | exact HB.out))) : w.heap.size ≤ gb107)); clear HB; have HB := n0_; have BK107 := n1_; have GW107 := n2_; have GE107 := n3_; clear n0_ n1_ n2_ n3_; clear hb hbox hg; have hcz23_0 : w22.cell? ⟨gb107, 0, none⟩ = some (.int .i64 0) := (blk_cell BK107.out 0).trans rfl; have hcz23_1 : w22.cell? ⟨gb107, 1, none⟩ = some (.bool false) := (blk_cell BK107.out 1).trans rfl; have hfz23_0 := blk_frozen BK107.out 0; have hfz23_1 := blk_frozen BK107.out 1) | ((with_reducible refine gate_callee (f := 24) rfl ?_); refine goesL_ (some 13) rfl rfl Tryd.func24 (by kernel_rfl) rfl #[.bool true, .agg #[.int .i64 t104, .bool t105]] rfl (by (try simp only [List.map_toArray, List.map_cons, List.map_nil]); first | done | rfl | (simp only [List.length_drop, List.length_take]; rfl)) ?_; (with_reducible refine (code_Place.calls k true t104 t105 t108 true _ A2.out).mono ?_); rintro e w24 ⟨rfl, hb⟩; refine ⟨_, rfl, ?_⟩; have n0_ := Aside0.mk (blk_below (g := gb107) (o := .cells #[.int .i64 t104, .bool t105] 23 (0, 0)) (by (with_reducible repeat (first | refine blk_drewN ?_ _ | refine blk_drew ?_ | refine blk_alloc ?_ _)); refine blk_put (cs := #[.int .i64 t104, .bool false]) ?_ 1 _ rfl; (with_reducible repeat (first | refine blk_drewN ?_ _ | refine blk_drew ?_ | refine blk_alloc ?_ _)); refine blk_put (cs := #[.int .i64 0, .bool false]) ?_ 0 _ rfl; (with_reducible repeat (first | refine blk_drewN ?_ _ | refine blk_drew ?_ | refine blk_alloc ?_ _)); exact BK107.out) hb); have n1_ := Aside0.mk (below_step (by repeat (first | (with_reducible first | exact HB.out | apply below_alloc | apply pw_below_drewN | apply below_drew1 | refine below_set ?_ GE107.out) | exact HB.out)) hb); clear BK107; clear HB; have BK107 := n0_; have HB := n1_; clear n0_ n1_; (try clear hb); (try clear hb2); (try clear hk); (try clear hi)) | ((with_reducible refine gate_callee (f := 14) rfl ?_); refine goesL_ (some 18) rfl rfl Tryd.func14 (by kernel_rfl) rfl #[.agg #[.int .i64 12, .bool false]] rfl (by (try simp only [List.map_toArray, List.map_cons, List.map_nil]); first | done | rfl | (simp only [List.length_drop, List.length_take]; rfl)) ?_; (with_reducible refine (code_Text.calls 12 false t110 t111 _ ?side1 A3.out).mono ?_); (case side1 => exact GlobS.below HGS (by repeat (first | (with_reducible first | exact HB.out | apply below_alloc | apply pw_below_drewN | apply below_drew1 | refine below_set ?_ GE107.out) | exact HB.out))); rintro e w25 ⟨rfl, hb⟩; refine ⟨_, rfl, ?_⟩; have n0_ := Aside0.mk (blk_below (g := gb107) (o := .cells #[.int .i64 t104, .bool t105] 23 (0, 0)) (by (with_reducible repeat (first | refine blk_drewN ?_ _ | refine blk_drew ?_ | refine blk_alloc ?_ _)); exact BK107.out) hb); have n1_ := Aside0.mk (below_step (by repeat (first | (with_reducible first | exact HB.out | apply below_alloc | apply pw_below_drewN | apply below_drew1 | refine below_set ?_ GE107.out) | exact HB.out)) hb); clear BK107; clear HB; have BK107 := n0_; have HB := n1_; clear n0_ n1_; (try clear hb); (try clear hb2); (try clear hk); (try clear hi); have hcz26_0 : w25.cell? ⟨gb107, 0, none⟩ = some (.int .i64 t104) := (blk_cell BK107.out 0).trans rfl; have hcz26_1 : w25.cell? ⟨gb107, 1, none⟩ = some (.bool t105) := (blk_cell BK107.out 1).trans rfl; have hfz26_0 := blk_frozen BK107.out 0; have hfz26_1 := blk_frozen BK107.out 1))
          go_ret
          exact ⟨by first | rfl | (simp [errW_none, errW_some] <;> rfl) | (simp [*, errW_none, errW_some] <;> rfl), by repeat (first | (with_reducible first | exact HB.out | apply below_alloc | apply pw_below_drewN | apply below_drew1 | refine below_set ?_ GE107.out) | exact HB.out)⟩
      · replace c6 := Bool.eq_false_iff.mpr c6
        subst c6
        have H1 : (some false) = some r := by rw [if_neg (show ¬ (false = true) by decide)] at H; exact H
        clear H
        have H := H1
        clear H1
        obtain rfl := Option.some.inj H
        go_enter Tryd.func13, Tryd.ntmps13
        go_wp2_with (first | ((with_reducible refine gate_callee (f := 16) rfl ?_); refine goesL_ (some 8) rfl rfl Tryd.func16 (by kernel_rfl) rfl #[.string (⟨#[77, 48, 53, 76]⟩ : ByteArray)] rfl (by (try simp only [List.map_toArray, List.map_cons, List.map_nil]); first | done | rfl | (simp only [List.length_drop, List.length_take]; rfl)) ?_; (with_reducible refine (code_Read.calls (⟨#[77, 48, 53, 76]⟩ : ByteArray) t104 t105 true _ ?side1 A1.out).mono ?_); (case side1 => exact GlobS.below HGS (by repeat (first | (with_reducible first | exact HB.out | apply below_alloc | apply pw_below_drewN | apply below_drew1) | exact HB.out))); rintro e w27 ⟨rfl, hb⟩; refine ⟨_, rfl, ?_⟩; have n0_ := Aside0.mk (below_step (by repeat (first | (with_reducible first | exact HB.out | apply below_alloc | apply pw_below_drewN | apply below_drew1) | exact HB.out)) hb); clear HB; have HB := n0_; clear n0_; (try clear hb); (try clear hb2); (try clear hk); (try clear hi)) | ((with_reducible refine gate_dst (N := 1) rfl ?_); refine box_event ?hg (N := 1) ?hd (cs := #[.int .i64 0, .bool false]) (t := 23) ?hr ?_; (case hd => rfl); (case hg => rfl); (case hr => first | (go_simp; done) | (go_simp; rfl)); intro gb107 hg w28 hbox hb; have n0_ := Aside0.mk (below_step (by repeat (first | (with_reducible first | exact HB.out | apply below_alloc | apply pw_below_drewN | apply below_drew1) | exact HB.out)) hb); have n1_ := Aside0.mk (hbox); have n2_ := Aside0.mk ((by rw [hg]; exact (below_size (by repeat (first | (with_reducible first | exact HB.out | apply below_alloc | apply pw_below_drewN | apply below_drew1) | exact HB.out))) : w.heap.size ≤ gb107)); have n3_ := Aside0.mk ((by rw [hg]; exact (below_size (by repeat (first | (with_reducible first | exact HB.out | apply below_alloc | apply pw_below_drewN | apply below_drew1) | exact HB.out))) : w.heap.size ≤ gb107)); clear HB; have HB := n0_; have BK107 := n1_; have GW107 := n2_; have GE107 := n3_; clear n0_ n1_ n2_ n3_; clear hb hbox hg; have hcz29_0 : w28.cell? ⟨gb107, 0, none⟩ = some (.int .i64 0) := (blk_cell BK107.out 0).trans rfl; have hcz29_1 : w28.cell? ⟨gb107, 1, none⟩ = some (.bool false) := (blk_cell BK107.out 1).trans rfl; have hfz29_0 := blk_frozen BK107.out 0; have hfz29_1 := blk_frozen BK107.out 1) | ((with_reducible refine gate_callee (f := 24) rfl ?_); refine goesL_ (some 13) rfl rfl Tryd.func24 (by kernel_rfl) rfl #[.bool true, .agg #[.int .i64 t104, .bool t105]] rfl (by (try simp only [List.map_toArray, List.map_cons, List.map_nil]); first | done | rfl | (simp only [List.length_drop, List.length_take]; rfl)) ?_; (with_reducible refine (code_Place.calls k true t104 t105 t108 false _ A2.out).mono ?_); rintro e w30 ⟨rfl, hb⟩; refine ⟨_, rfl, ?_⟩; have n0_ := Aside0.mk (blk_below (g := gb107) (o := .cells #[.int .i64 t104, .bool t105] 23 (0, 0)) (by (with_reducible repeat (first | refine blk_drewN ?_ _ | refine blk_drew ?_ | refine blk_alloc ?_ _)); refine blk_put (cs := #[.int .i64 t104, .bool false]) ?_ 1 _ rfl; (with_reducible repeat (first | refine blk_drewN ?_ _ | refine blk_drew ?_ | refine blk_alloc ?_ _)); refine blk_put (cs := #[.int .i64 0, .bool false]) ?_ 0 _ rfl; (with_reducible repeat (first | refine blk_drewN ?_ _ | refine blk_drew ?_ | refine blk_alloc ?_ _)); exact BK107.out) hb); have n1_ := Aside0.mk (below_step (by repeat (first | (with_reducible first | exact HB.out | apply below_alloc | apply pw_below_drewN | apply below_drew1 | refine below_set ?_ GE107.out) | exact HB.out)) hb); clear BK107; clear HB; have BK107 := n0_; have HB := n1_; clear n0_ n1_; (try clear hb); (try clear hb2); (try clear hk); (try clear hi)) | ((with_reducible refine gate_callee (f := 14) rfl ?_); refine goesL_ (some 18) rfl rfl Tryd.func14 (by kernel_rfl) rfl #[.agg #[.int .i64 12, .bool false]] rfl (by (try simp only [List.map_toArray, List.map_cons, List.map_nil]); first | done | rfl | (simp only [List.length_drop, List.length_take]; rfl)) ?_; (with_reducible refine (code_Text.calls 12 false t110 t111 _ ?side1 A3.out).mono ?_); (case side1 => exact GlobS.below HGS (by repeat (first | (with_reducible first | exact HB.out | apply below_alloc | apply pw_below_drewN | apply below_drew1 | refine below_set ?_ GE107.out) | exact HB.out))); rintro e w31 ⟨rfl, hb⟩; refine ⟨_, rfl, ?_⟩; have n0_ := Aside0.mk (blk_below (g := gb107) (o := .cells #[.int .i64 t104, .bool t105] 23 (0, 0)) (by (with_reducible repeat (first | refine blk_drewN ?_ _ | refine blk_drew ?_ | refine blk_alloc ?_ _)); exact BK107.out) hb); have n1_ := Aside0.mk (below_step (by repeat (first | (with_reducible first | exact HB.out | apply below_alloc | apply pw_below_drewN | apply below_drew1 | refine below_set ?_ GE107.out) | exact HB.out)) hb); clear BK107; clear HB; have BK107 := n0_; have HB := n1_; clear n0_ n1_; (try clear hb); (try clear hb2); (try clear hk); (try clear hi); have hcz32_0 : w31.cell? ⟨gb107, 0, none⟩ = some (.int .i64 t104) := (blk_cell BK107.out 0).trans rfl; have hcz32_1 : w31.cell? ⟨gb107, 1, none⟩ = some (.bool t105) := (blk_cell BK107.out 1).trans rfl; have hfz32_0 := blk_frozen BK107.out 0; have hfz32_1 := blk_frozen BK107.out 1))
        go_ret
        exact ⟨by first | rfl | (simp [errW_none, errW_some] <;> rfl) | (simp [*, errW_none, errW_some] <;> rfl), by repeat (first | (with_reducible first | exact HB.out | apply below_alloc | apply pw_below_drewN | apply below_drew1 | refine below_set ?_ GE107.out) | exact HB.out)⟩
    · rw [if_neg c5] at H
      have c5b0 : (t104 == 5 && (t105)) = false := by simpa using c5
      (try (have c5b1 : decide (t104 = 5 && (t105)) = false := by simpa using c5))
      (try (have c5b2 : (t104 == 5 && (t105)) = false := by simpa using c5))
      (try (have c5b3 : ¬ (t104 = 5 && (t105)) := by simpa using c5))
      clear c5
      obtain rfl := Option.some.inj H
      go_enter Tryd.func13, Tryd.ntmps13
      go_wp2_with (first | ((with_reducible refine gate_callee (f := 16) rfl ?_); refine goesL_ (some 8) rfl rfl Tryd.func16 (by kernel_rfl) rfl #[.string (⟨#[77, 48, 53, 76]⟩ : ByteArray)] rfl (by (try simp only [List.map_toArray, List.map_cons, List.map_nil]); first | done | rfl | (simp only [List.length_drop, List.length_take]; rfl)) ?_; (with_reducible refine (code_Read.calls (⟨#[77, 48, 53, 76]⟩ : ByteArray) t104 t105 true _ ?side1 A1.out).mono ?_); (case side1 => exact GlobS.below HGS (by repeat (first | (with_reducible first | exact HB.out | apply below_alloc | apply pw_below_drewN | apply below_drew1) | exact HB.out))); rintro e w33 ⟨rfl, hb⟩; refine ⟨_, rfl, ?_⟩; have n0_ := Aside0.mk (below_step (by repeat (first | (with_reducible first | exact HB.out | apply below_alloc | apply pw_below_drewN | apply below_drew1) | exact HB.out)) hb); clear HB; have HB := n0_; clear n0_; (try clear hb); (try clear hb2); (try clear hk); (try clear hi)) | ((with_reducible refine gate_dst (N := 1) rfl ?_); refine box_event ?hg (N := 1) ?hd (cs := #[.int .i64 0, .bool false]) (t := 23) ?hr ?_; (case hd => rfl); (case hg => rfl); (case hr => first | (go_simp; done) | (go_simp; rfl)); intro gb107 hg w34 hbox hb; have n0_ := Aside0.mk (below_step (by repeat (first | (with_reducible first | exact HB.out | apply below_alloc | apply pw_below_drewN | apply below_drew1) | exact HB.out)) hb); have n1_ := Aside0.mk (hbox); have n2_ := Aside0.mk ((by rw [hg]; exact (below_size (by repeat (first | (with_reducible first | exact HB.out | apply below_alloc | apply pw_below_drewN | apply below_drew1) | exact HB.out))) : w.heap.size ≤ gb107)); have n3_ := Aside0.mk ((by rw [hg]; exact (below_size (by repeat (first | (with_reducible first | exact HB.out | apply below_alloc | apply pw_below_drewN | apply below_drew1) | exact HB.out))) : w.heap.size ≤ gb107)); clear HB; have HB := n0_; have BK107 := n1_; have GW107 := n2_; have GE107 := n3_; clear n0_ n1_ n2_ n3_; clear hb hbox hg; have hcz35_0 : w34.cell? ⟨gb107, 0, none⟩ = some (.int .i64 0) := (blk_cell BK107.out 0).trans rfl; have hcz35_1 : w34.cell? ⟨gb107, 1, none⟩ = some (.bool false) := (blk_cell BK107.out 1).trans rfl; have hfz35_0 := blk_frozen BK107.out 0; have hfz35_1 := blk_frozen BK107.out 1) | ((with_reducible refine gate_callee (f := 24) rfl ?_); refine goesL_ (some 13) rfl rfl Tryd.func24 (by kernel_rfl) rfl #[.bool true, .agg #[.int .i64 t104, .bool t105]] rfl (by (try simp only [List.map_toArray, List.map_cons, List.map_nil]); first | done | rfl | (simp only [List.length_drop, List.length_take]; rfl)) ?_; (with_reducible refine (code_Place.calls k true t104 t105 t108 t109 _ A2.out).mono ?_); rintro e w36 ⟨rfl, hb⟩; refine ⟨_, rfl, ?_⟩; have n0_ := Aside0.mk (blk_below (g := gb107) (o := .cells #[.int .i64 t104, .bool t105] 23 (0, 0)) (by (with_reducible repeat (first | refine blk_drewN ?_ _ | refine blk_drew ?_ | refine blk_alloc ?_ _)); refine blk_put (cs := #[.int .i64 t104, .bool false]) ?_ 1 _ rfl; (with_reducible repeat (first | refine blk_drewN ?_ _ | refine blk_drew ?_ | refine blk_alloc ?_ _)); refine blk_put (cs := #[.int .i64 0, .bool false]) ?_ 0 _ rfl; (with_reducible repeat (first | refine blk_drewN ?_ _ | refine blk_drew ?_ | refine blk_alloc ?_ _)); exact BK107.out) hb); have n1_ := Aside0.mk (below_step (by repeat (first | (with_reducible first | exact HB.out | apply below_alloc | apply pw_below_drewN | apply below_drew1 | refine below_set ?_ GE107.out) | exact HB.out)) hb); clear BK107; clear HB; have BK107 := n0_; have HB := n1_; clear n0_ n1_; (try clear hb); (try clear hb2); (try clear hk); (try clear hi)) | ((with_reducible refine gate_callee (f := 14) rfl ?_); refine goesL_ (some 18) rfl rfl Tryd.func14 (by kernel_rfl) rfl #[.agg #[.int .i64 12, .bool false]] rfl (by (try simp only [List.map_toArray, List.map_cons, List.map_nil]); first | done | rfl | (simp only [List.length_drop, List.length_take]; rfl)) ?_; (with_reducible refine (code_Text.calls 12 false t110 t111 _ ?side1 A3.out).mono ?_); (case side1 => exact GlobS.below HGS (by repeat (first | (with_reducible first | exact HB.out | apply below_alloc | apply pw_below_drewN | apply below_drew1 | refine below_set ?_ GE107.out) | exact HB.out))); rintro e w37 ⟨rfl, hb⟩; refine ⟨_, rfl, ?_⟩; have n0_ := Aside0.mk (blk_below (g := gb107) (o := .cells #[.int .i64 t104, .bool t105] 23 (0, 0)) (by (with_reducible repeat (first | refine blk_drewN ?_ _ | refine blk_drew ?_ | refine blk_alloc ?_ _)); exact BK107.out) hb); have n1_ := Aside0.mk (below_step (by repeat (first | (with_reducible first | exact HB.out | apply below_alloc | apply pw_below_drewN | apply below_drew1 | refine below_set ?_ GE107.out) | exact HB.out)) hb); clear BK107; clear HB; have BK107 := n0_; have HB := n1_; clear n0_ n1_; (try clear hb); (try clear hb2); (try clear hk); (try clear hi); have hcz38_0 : w37.cell? ⟨gb107, 0, none⟩ = some (.int .i64 t104) := (blk_cell BK107.out 0).trans rfl; have hcz38_1 : w37.cell? ⟨gb107, 1, none⟩ = some (.bool t105) := (blk_cell BK107.out 1).trans rfl; have hfz38_0 := blk_frozen BK107.out 0; have hfz38_1 := blk_frozen BK107.out 1))
      go_ret
      exact ⟨by first | rfl | (simp [errW_none, errW_some] <;> rfl) | (simp [*, errW_none, errW_some] <;> rfl), by repeat (first | (with_reducible first | exact HB.out | apply below_alloc | apply pw_below_drewN | apply below_drew1 | refine below_set ?_ GE107.out) | exact HB.out)⟩
  · replace c4 := Bool.eq_false_iff.mpr c4
    subst c4
    have H1 : (some false) = some r := by rw [if_neg (show ¬ (false = true) by decide)] at H; exact H
    clear H
    have H := H1
    clear H1
    obtain rfl := Option.some.inj H
    go_enter Tryd.func13, Tryd.ntmps13
    go_wp2_with (first | ((with_reducible refine gate_callee (f := 16) rfl ?_); refine goesL_ (some 8) rfl rfl Tryd.func16 (by kernel_rfl) rfl #[.string (⟨#[77, 48, 53, 76]⟩ : ByteArray)] rfl (by (try simp only [List.map_toArray, List.map_cons, List.map_nil]); first | done | rfl | (simp only [List.length_drop, List.length_take]; rfl)) ?_; (with_reducible refine (code_Read.calls (⟨#[77, 48, 53, 76]⟩ : ByteArray) t104 t105 false _ ?side1 A1.out).mono ?_); (case side1 => exact GlobS.below HGS (by repeat (first | (with_reducible first | exact HB.out | apply below_alloc | apply pw_below_drewN | apply below_drew1) | exact HB.out))); rintro e w39 ⟨rfl, hb⟩; refine ⟨_, rfl, ?_⟩; have n0_ := Aside0.mk (below_step (by repeat (first | (with_reducible first | exact HB.out | apply below_alloc | apply pw_below_drewN | apply below_drew1) | exact HB.out)) hb); clear HB; have HB := n0_; clear n0_; (try clear hb); (try clear hb2); (try clear hk); (try clear hi)) | ((with_reducible refine gate_dst (N := 1) rfl ?_); refine box_event ?hg (N := 1) ?hd (cs := #[.int .i64 0, .bool false]) (t := 23) ?hr ?_; (case hd => rfl); (case hg => rfl); (case hr => first | (go_simp; done) | (go_simp; rfl)); intro gb107 hg w40 hbox hb; have n0_ := Aside0.mk (below_step (by repeat (first | (with_reducible first | exact HB.out | apply below_alloc | apply pw_below_drewN | apply below_drew1) | exact HB.out)) hb); have n1_ := Aside0.mk (hbox); have n2_ := Aside0.mk ((by rw [hg]; exact (below_size (by repeat (first | (with_reducible first | exact HB.out | apply below_alloc | apply pw_below_drewN | apply below_drew1) | exact HB.out))) : w.heap.size ≤ gb107)); have n3_ := Aside0.mk ((by rw [hg]; exact (below_size (by repeat (first | (with_reducible first | exact HB.out | apply below_alloc | apply pw_below_drewN | apply below_drew1) | exact HB.out))) : w.heap.size ≤ gb107)); clear HB; have HB := n0_; have BK107 := n1_; have GW107 := n2_; have GE107 := n3_; clear n0_ n1_ n2_ n3_; clear hb hbox hg; have hcz41_0 : w40.cell? ⟨gb107, 0, none⟩ = some (.int .i64 0) := (blk_cell BK107.out 0).trans rfl; have hcz41_1 : w40.cell? ⟨gb107, 1, none⟩ = some (.bool false) := (blk_cell BK107.out 1).trans rfl; have hfz41_0 := blk_frozen BK107.out 0; have hfz41_1 := blk_frozen BK107.out 1) | ((with_reducible refine gate_callee (f := 24) rfl ?_); refine goesL_ (some 13) rfl rfl Tryd.func24 (by kernel_rfl) rfl #[.bool true, .agg #[.int .i64 t104, .bool t105]] rfl (by (try simp only [List.map_toArray, List.map_cons, List.map_nil]); first | done | rfl | (simp only [List.length_drop, List.length_take]; rfl)) ?_; (with_reducible refine (code_Place.calls k true t104 t105 t108 t109 _ A2.out).mono ?_); rintro e w42 ⟨rfl, hb⟩; refine ⟨_, rfl, ?_⟩; have n0_ := Aside0.mk (blk_below (g := gb107) (o := .cells #[.int .i64 t104, .bool t105] 23 (0, 0)) (by (with_reducible repeat (first | refine blk_drewN ?_ _ | refine blk_drew ?_ | refine blk_alloc ?_ _)); refine blk_put (cs := #[.int .i64 t104, .bool false]) ?_ 1 _ rfl; (with_reducible repeat (first | refine blk_drewN ?_ _ | refine blk_drew ?_ | refine blk_alloc ?_ _)); refine blk_put (cs := #[.int .i64 0, .bool false]) ?_ 0 _ rfl; (with_reducible repeat (first | refine blk_drewN ?_ _ | refine blk_drew ?_ | refine blk_alloc ?_ _)); exact BK107.out) hb); have n1_ := Aside0.mk (below_step (by repeat (first | (with_reducible first | exact HB.out | apply below_alloc | apply pw_below_drewN | apply below_drew1 | refine below_set ?_ GE107.out) | exact HB.out)) hb); clear BK107; clear HB; have BK107 := n0_; have HB := n1_; clear n0_ n1_; (try clear hb); (try clear hb2); (try clear hk); (try clear hi)) | ((with_reducible refine gate_callee (f := 14) rfl ?_); refine goesL_ (some 18) rfl rfl Tryd.func14 (by kernel_rfl) rfl #[.agg #[.int .i64 12, .bool false]] rfl (by (try simp only [List.map_toArray, List.map_cons, List.map_nil]); first | done | rfl | (simp only [List.length_drop, List.length_take]; rfl)) ?_; (with_reducible refine (code_Text.calls 12 false t110 t111 _ ?side1 A3.out).mono ?_); (case side1 => exact GlobS.below HGS (by repeat (first | (with_reducible first | exact HB.out | apply below_alloc | apply pw_below_drewN | apply below_drew1 | refine below_set ?_ GE107.out) | exact HB.out))); rintro e w43 ⟨rfl, hb⟩; refine ⟨_, rfl, ?_⟩; have n0_ := Aside0.mk (blk_below (g := gb107) (o := .cells #[.int .i64 t104, .bool t105] 23 (0, 0)) (by (with_reducible repeat (first | refine blk_drewN ?_ _ | refine blk_drew ?_ | refine blk_alloc ?_ _)); exact BK107.out) hb); have n1_ := Aside0.mk (below_step (by repeat (first | (with_reducible first | exact HB.out | apply below_alloc | apply pw_below_drewN | apply below_drew1 | refine below_set ?_ GE107.out) | exact HB.out)) hb); clear BK107; clear HB; have BK107 := n0_; have HB := n1_; clear n0_ n1_; (try clear hb); (try clear hb2); (try clear hk); (try clear hi)))
    go_ret
    exact ⟨by first | rfl | (simp [errW_none, errW_some] <;> rfl) | (simp [*, errW_none, errW_some] <;> rfl), by repeat (first | (with_reducible first | exact HB.out | apply below_alloc | apply pw_below_drewN | apply below_drew1 | refine below_set ?_ GE107.out) | exact HB.out)⟩

end Go.Proofs.YtflpddhoiafhcaaDoor.C
