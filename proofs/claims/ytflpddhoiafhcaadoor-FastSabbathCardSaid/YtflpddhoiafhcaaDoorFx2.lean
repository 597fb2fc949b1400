-- Written by wip/hprint.py of this repo (holes typed by hand, all else by a program) over the seat YtflpddhoiafhcaaDoor.
import Derived.Test.YtflpddhoiafhcaaDoorFx0
namespace Go.Proofs.YtflpddhoiafhcaaDoor.F
open Go.Proofs.YtflpddhoiafhcaaDoor.H
open Go.RowKit Go.Proofs.YtflpddhoiafhcaaDoorW.PrintWords Go.Proofs.YtflpddhoiafhcaaDoorW.PrintLast Go.Proofs.YtflpddhoiafhcaaDoorW.PrintMore
attribute [local go_sem] max2_int min2_int max_two min_two max_three min_three max_four min_four   -- for this text's walks alone
set_option linter.unusedVariables false
set_option linter.unusedSimpArgs false

/-! ### fast_Moved: function 29 -/
def fast_Moved.f (a0 : Int) (a1 : Int) : Option (Int) := some (Cal.moved a0 a1)
theorem eqA_pair (d : Nat) (w : World) (x0 y0 : Int) (x1 y1 : Int) :
    (Op.equalIn (d + 2) 80 (.agg #[.int .i64 x0, .int .i64 x1]) (.agg #[.int .i64 y0, .int .i64 y1])).run Tryd.prog w = .ok (x0 == y0 && (x1 == y1)) w := by
  refine eqA_of Tryd.underlying80 (by kernel_rfl) ?_
  refine eqf_cons (by rfl) (by go_simp; rfl) (by go_simp; rfl) (by go_simp) ?_
  exact eqf_last (by rfl) (by go_simp; rfl) (by go_simp; rfl) (by go_simp)
attribute [local go_sem high] eqA_pair in
set_option maxHeartbeats 8000000 in
set_option maxRecDepth 100000 in
theorem fast_Moved.calls (a0 : Int) (a1 : Int) (r : Int) (w : World) (h : fast_Moved.f a0 a1 = some r) :
    Calls Tryd.prog 29 #[.int .i64 a0, .int .i64 a1] w fun e w' => e = .returned (.int .i64 r) ∧ Drawn0 w w' := by
  have h' := Option.some.inj h
  clear h
  unfold Cal.moved at h'
  cases c0 : (a0 == 2 && a1 == 6)
  rotate_left
  · rw [c0, if_pos rfl] at h'; subst h'
    go_enter Tryd.func29, Tryd.ntmps29
    go_wp2_with fail
    go_ret
    exact ⟨rfl, Drawn0.refl _⟩
  rw [c0, if_neg (by decide)] at h'
  cases c1 : (a0 == 26 && a1 == 6)
  rotate_left
  · rw [c1, if_pos rfl] at h'; subst h'
    go_enter Tryd.func29, Tryd.ntmps29
    go_wp2_with fail
    go_ret
    exact ⟨rfl, Drawn0.refl _⟩
  rw [c1, if_neg (by decide)] at h'
  cases c2 : (a0 == 27 && a1 == 6)
  rotate_left
  · rw [c2, if_pos rfl] at h'; subst h'
    go_enter Tryd.func29, Tryd.ntmps29
    go_wp2_with fail
    go_ret
    exact ⟨rfl, Drawn0.refl _⟩
  rw [c2, if_neg (by decide)] at h'
  cases c3 : (a0 == 19 && a1 == 0)
  rotate_left
  · rw [c3, if_pos rfl] at h'; subst h'
    go_enter Tryd.func29, Tryd.ntmps29
    go_wp2_with fail
    go_ret
    exact ⟨rfl, Drawn0.refl _⟩
  rw [c3, if_neg (by decide)] at h'
  cases c4 : (a0 == 21 && a1 == 1)
  rotate_left
  · rw [c4, if_pos rfl] at h'; subst h'
    go_enter Tryd.func29, Tryd.ntmps29
    go_wp2_with fail
    go_ret
    exact ⟨rfl, Drawn0.refl _⟩
  rw [c4, if_neg (by decide)] at h'
  cases c5 : (a0 == 19 && a1 == 5)
  rotate_left
  · rw [c5, if_pos rfl] at h'; subst h'
    go_enter Tryd.func29, Tryd.ntmps29
    go_wp2_with fail
    go_ret
    exact ⟨rfl, Drawn0.refl _⟩
  rw [c5, if_neg (by decide)] at h'
  cases c6 : (a0 == 21 && a1 == 5)
  rotate_left
  · rw [c6, if_pos rfl] at h'; subst h'
    go_enter Tryd.func29, Tryd.ntmps29
    go_wp2_with fail
    go_ret
    exact ⟨rfl, Drawn0.refl _⟩
  rw [c6, if_neg (by decide)] at h'
  cases c7 : (a0 == 13 && a1 == 6)
  rotate_left
  · rw [c7, if_pos rfl] at h'; subst h'
    go_enter Tryd.func29, Tryd.ntmps29
    go_wp2_with fail
    go_ret
    exact ⟨rfl, Drawn0.refl _⟩
  rw [c7, if_neg (by decide)] at h'
  cases c8 : (a0 == 16 && a1 == 6)
  rotate_left
  · rw [c8, if_pos rfl] at h'; subst h'
    go_enter Tryd.func29, Tryd.ntmps29
    go_wp2_with fail
    go_ret
    exact ⟨rfl, Drawn0.refl _⟩
  rw [c8, if_neg (by decide)] at h'
  cases c9 : (a0 == 21 && a1 == 6)
  rotate_left
  · rw [c9, if_pos rfl] at h'; subst h'
    go_enter Tryd.func29, Tryd.ntmps29
    go_wp2_with fail
    go_ret
    exact ⟨rfl, Drawn0.refl _⟩
  rw [c9, if_neg (by decide)] at h'
  subst h'
  go_enter Tryd.func29, Tryd.ntmps29
  go_wp2_with fail
  go_ret
  exact ⟨rfl, Drawn0.refl _⟩

/-! ### feast_Sort: function 39 -/
def toP (x : S48) : Int × Int := (x.f0, x.f1)
def ofP (x : Int × Int) : S48 := ⟨x.1, x.2⟩
def feast_Sort.f (l0 : List S48) : Option (List S48) := if l0.length ≤ 8796093022208 then some ((Cal.sortE (l0.map toP)).map ofP) else none
set_option maxHeartbeats 2000000 in
set_option maxRecDepth 100000 in
theorem clone_any (ad : Addr) (n c : Nat) (news : List Value) (w : World) (hl : news.length = n * 2) (hn : n ≤ maxLen) (hbig : n * 16 ≤ 140737488355328)
    (hc : ∀ j u, news[j]? = some u → w.cell? (ad.add j) = some u) (h1 : ∀ u ∈ news, u.oneCell' = true) :
    Calls Tryd.prog 64 #[.slice (some ad) n c] w fun e w' => ∃ v', e = .returned v' ∧ w'.ownsRow w.heap.size 48 2 v' n news ∧ v' ≠ .slice none 0 0 ∧ Below w.heap.size w w' := by
  have hinfo : (Tryd.prog.info? 48).map (fun i => (i.zero, i.size, i.bytes)) = some (some (.agg #[.int .i64 0, .int .i64 0]), 2, 16) := by kernel_rfl
  obtain ⟨i0, hi⟩ : ∃ i0, Tryd.prog.info? 48 = some i0 := by
    cases h : Tryd.prog.info? 48 with
    | none => rw [h] at hinfo; cases hinfo
    | some i0 => exact ⟨i0, rfl⟩
  rw [hi] at hinfo
  simp only [Option.map_some, Option.some.injEq, Prod.mk.injEq] at hinfo
  obtain ⟨hz0, hz1, hz2⟩ := hinfo
  have A : Aside (∀ j u, news[j]? = some u → w.cell? (ad.add j) = some u) := hc
  clear hc
  have q38 : ∀ (w : World) (a : Option Addr) (n c n' c' : Nat), (binOp .eql 38 (.slice a n c) (.slice none n' c')).run Tryd.prog w = .ok (.bool a.isNone) w := fun w a n c n' c' => Lib.run_eql_slice_nil w _ _ a n c n' c' Tryd.underlying38
  go_enter Tryd.func64, Tryd.ntmps64
  go_wp2_with (at_builtin; refine wpList_append_own _ rfl _ _ 38 rfl w.heap.size 48 i0 (.agg #[.int .i64 0, .int .i64 0]) 2 16 Tryd.underlying38 hi hz0 hz1 hz2 rfl (by decide) _ _ _ rfl (World.ownsRow_made w #[] 0 (Nat.le_refl _) (Nat.zero_le _) (by simp)) ad n c news rfl ?qc1 ?qc2 ?qc3 ?qc4 ?qc5 ?qc6 ?_)
  case qc1 => exact hl
  case qc2 =>
    intro j u hj
    exact Lib.cell?_alloc_some _ (A.out j u hj)
  case qc3 => exact h1
  case qc4 => rw [Nat.zero_add]; exact hn
  case qc5 => rw [Nat.zero_add]; exact hbig
  case qc6 => simp
  intro v' w1 hown hgrow hnil
  go_wp2
  go_ret
  refine ⟨v', rfl, by simpa using hown, hnil, ?_⟩
  exact ((Below.refl _ w).alloc (Nat.le_refl _) _).grown hgrow (by simp) (by intro k hk; simp [Value.ownBlock] at hk; omega)
theorem ltOf_ev (x y : Int × Int) : Go.Proofs.ltOf cmpEv x y = Cal.ltE x y := by
  obtain ⟨a, b⟩ := x
  obtain ⟨c, d⟩ := y
  unfold Go.Proofs.ltOf cmpEv or2 cmpI Go.Lib.compareInt Cal.ltE
  simp only
  repeat' split
  all_goals (apply decide_eq_decide.2; omega)
theorem ev_swo : Go.Sort.SWO (Go.Proofs.ltOf cmpEv) := by
  refine ⟨fun x => ?_, fun x y z h1 h2 => ?_, fun x y z h1 h2 => ?_⟩ <;> simp only [ltOf_ev, Cal.ltE, decide_eq_true_eq, decide_eq_false_iff_not] at * <;> omega
theorem flat_get (l : List (Int × Int)) (t : Nat) (h : t < l.length * 2) : (l.flatMap encE)[t]? = (encE l.toArray[t / 2]!)[t % 2]? := by
  induction l generalizing t with
  | nil => simp at h
  | cons x r ih =>
    rw [List.flatMap_cons]
    by_cases h2 : t < 2
    · rw [List.getElem?_append_left (by simpa [encE] using h2)]
      rcases (by omega : t = 0 ∨ t = 1) with rfl | rfl <;> rfl
    · rw [List.getElem?_append_right (by simp [encE]; omega)]
      have e : (encE x).length = 2 := rfl
      rw [e, ih (t - 2) (by simp at h; omega)]
      have e1 : t / 2 = (t - 2) / 2 + 1 := by omega
      have e2 : t % 2 = (t - 2) % 2 := by omega
      rw [e1, e2]
      simp
theorem flat_eq (l : List (Int × Int)) : Go.Sort.flatK encE 2 l.toArray = (l.flatMap encE).toArray := by
  have hlen : (l.flatMap encE).length = l.length * 2 := by
    induction l with
    | nil => rfl
    | cons x r ih => rw [List.flatMap_cons, List.length_append, ih]; simp [encE]; omega
  apply Array.ext
  · simp [hlen]
  · intro i h1 h2
    have h3 : i < l.length * 2 := by simpa using h1
    have g1 := Go.Sort.get_flatK encE 2 l.toArray i (by simpa using h3)
    have g2 := flat_get l i h3
    rw [getElem!_pos _ i h1] at g1
    rw [g1]
    have h4 : i < (l.flatMap encE).length := by omega
    rw [List.getElem?_eq_getElem h4] at g2
    have h5 : i % 2 < (encE l.toArray[i / 2]!).length := by simp [encE]; omega
    rw [List.getElem?_eq_getElem h5] at g2
    rw [getElem!_pos _ (i % 2) h5]
    simpa using (Option.some.inj g2).symm
theorem heap_sortedE {w : World} {g n : Nat} {os : Array Obj} {cur : Array Value} {e : TypeId} {fr : Nat × Nat} (d : Array Value) (hb : w.heap[g]? = some (.cells cur e fr)) :
    (Go.Sort.grow (Go.Sort.putRow id (Go.Sort.ahead w n) g 0 d) os).heap[g]? = some (.cells (Go.Sort.putCells id 0 d cur) e fr) := by
  have hg : g < w.heap.size := (Array.getElem?_eq_some_iff.1 hb).1
  rw [Go.Sort.heap_grow_old _ _ (by simpa using hg)]
  simp [Go.Sort.putRow, Go.Sort.mapBlock, Go.Sort.ahead, Array.getElem?_modify, hb, Go.Sort.onCells]
theorem grownBy_sortedE {w : World} {g n : Nat} {os : Array Obj} (d : Array Value) : w.grownBy (Go.Sort.grow (Go.Sort.putRow id (Go.Sort.ahead w n) g 0 d) os) (some g) := by
  refine ⟨rfl, rfl, rfl, by simp, fun k hk hne => ?_⟩
  rw [Go.Sort.heap_grow_old _ _ (by simpa using hk)]
  have : g ≠ k := fun e => hne (by rw [e])
  simp [Go.Sort.putRow, Go.Sort.mapBlock, Go.Sort.ahead, Array.getElem?_modify, this]
theorem take_putCellsE (cur : Array Value) (ts : List Value) (h : ts.length ≤ cur.size) : (Go.Sort.putCells id 0 ts.toArray cur).toList.take ts.length = ts := by
  apply List.ext_getElem?
  intro j
  by_cases hj : j < ts.length
  · rw [List.getElem?_take_of_lt hj, Array.getElem?_toList]
    simp [Go.Sort.putCells, hj, show j < cur.size by omega]
  · rw [List.getElem?_take_eq_none (by omega), List.getElem?_eq_none (by omega)]
theorem flat_len (l : List (Int × Int)) : (l.flatMap encE).length = l.length * 2 := by
  induction l with
  | nil => rfl
  | cons x r ih => rw [List.flatMap_cons, List.length_append, ih]; simp [encE]; omega
set_option maxHeartbeats 2000000 in
theorem sort_own (g cap : Nat) (l : List (Int × Int)) (cur : Array Value) (W : World) (B : Nat) (hB : B ≤ g) (hb : W.heap[g]? = some (.cells cur 48 (0, 0))) (h1 : l.length ≤ cap) (h2 : cap ≤ maxLen) (h3 : cur.size = cap * 2)
    (ht : cur.toList.take (l.length * 2) = l.flatMap encE) (hsz : l.length < 4611686018427387904) :
    Calls Tryd.prog 65 #[.slice (some ⟨g, 0, none⟩) l.length cap, .func (.func 66) #[] #[]] W
      fun e w' => e = .returned (.tuple #[]) ∧ w'.ownsRow B 48 2 (.slice (some ⟨g, 0, none⟩) l.length cap) l.length ((Cal.sortE l).flatMap encE) ∧ Below B W w' := by
  have hg : g < W.heap.size := (Array.getElem?_eq_some_iff.1 hb).1
  have hH : Go.Sort.HoldsK encE 2 W g 0 l.toArray := by
    unfold Go.Sort.HoldsK
    rw [flat_eq]
    intro j hj
    have hj' : j < (l.flatMap encE).length := by simpa using hj
    have hj2 := flat_len l
    refine ⟨?_, by simp [World.frozen?, hb]⟩
    have e1 : (cur.toList.take (l.length * 2))[j]? = (l.flatMap encE)[j]? := by rw [ht]
    rw [List.getElem?_take_of_lt (by omega)] at e1
    rw [blk_cell hb, Nat.zero_add, ← Array.getElem?_toList, e1, List.getElem?_eq_getElem hj']
    rw [getElem!_pos _ j hj]
    simp
  have hcmp : Go.Proofs.CmpLays Tryd.prog 66 #[] encE 2 cmpEv g 0 l.toArray.size W := fun m os dk hs x y => by
    simpa using ev_closure x y _
  have h := AnyQ.slices_SortFunc Tryd.sortEv 2 Tryd.isAgg48 Tryd.sizeOf48 encE (fun _ => rfl) (fun x v hv => by simp [encE] at hv; rcases hv with rfl | rfl <;> rfl) cmpEv ev_swo 66 #[] g 0 cap l.toArray W
    (enters_of Tryd.func66 (by kernel_rfl) rfl) hcmp hH hg (by simpa using hsz)
  refine (show Calls Tryd.prog 65 #[.slice (some ⟨g, 0, none⟩) l.length cap, .func (.func 66) #[] #[]] W _ from h).mono ?_
  rintro e w' ⟨he, d', n, os, hp, hs, rfl⟩
  have hsz' : d'.size = l.length := by simpa using hp.1
  have hperm : d'.toList.Perm l := by
    have := hp.2.2
    simpa [Array.extract_eq_self_of_le, hsz'] using this
  have hord : Cal.InOrder d'.toList := by
    rw [Cal.InOrder, List.pairwise_iff_getElem]
    intro i j hi hj hij
    have h5 := hs i j (Nat.zero_le _) hij (by simpa [hsz'] using hj)
    have hi' : i < d'.size := by simpa using hi
    have hj' : j < d'.size := by simpa using hj
    rw [getElem!_pos d' i hi', getElem!_pos d' j hj', ltOf_ev] at h5
    simpa using h5
  have hd' : d' = (Cal.sortE l).toArray := by
    rw [← Cal.sortE_of hord hperm]
  subst hd'
  refine ⟨he, ⟨?_, .inr ⟨g, cap, Go.Sort.putCells id 0 (Go.Sort.flatK encE 2 (Cal.sortE l).toArray) cur, rfl, hB, ?_, h1, h2, ?_, ?_⟩⟩, ?_⟩
  · rw [flat_len, Cal.sortE_length]
  · exact heap_sortedE _ hb
  · simp [Go.Sort.putCells, h3]
  · have e2 : l.length * 2 = ((Cal.sortE l).flatMap encE).length := by rw [flat_len, Cal.sortE_length]
    rw [e2, flat_eq]
    exact take_putCellsE cur _ (by rw [flat_len, Cal.sortE_length]; omega)
  · exact (Below.refl B W).grown (grownBy_sortedE _) (by omega) (by intro k hk; simp at hk; omega)
theorem reps_flat : ∀ (ps : List S48) (inner : List Value), inner.length = ps.length * 2 → (∀ j p, ps[j]? = some p → (inner.drop (j * 2)).take 2 = encE (toP p)) → inner = (ps.map toP).flatMap encE
  | [], inner, hl, _ => by simpa using hl
  | p :: r, inner, hl, h => by
    have h0 := h 0 p rfl
    have hr := reps_flat r (inner.drop 2) (by rw [List.length_drop, hl]; simp; omega) (fun j q hq => by
      have := h (j + 1) q (by simpa using hq)
      rw [List.drop_drop, show 2 + j * 2 = (j + 1) * 2 by omega]
      exact this)
    rw [List.map_cons, List.flatMap_cons, ← hr, ← h0]
    simp
theorem flat_chunk : ∀ (ps : List S48) (j : Nat) (p : S48), ps[j]? = some p → ((((ps.map toP).flatMap encE).drop (j * 2)).take 2) = encE (toP p)
  | [], j, p, h => by simp at h
  | q :: r, 0, p, h => by
    obtain rfl : q = p := by simpa using h
    rfl
  | q :: r, j + 1, p, h => by
    rw [List.map_cons, List.flatMap_cons, show (j + 1) * 2 = 2 + j * 2 by omega, ← List.drop_drop]
    exact flat_chunk r j p (by simpa using h)
theorem toP_ofP (l : List (Int × Int)) : (l.map ofP).map toP = l := by
  rw [List.map_map]
  exact List.map_id'' (fun _ => rfl) l
theorem own_row_of {W : World} {base : Nat} {v : Value} (l : List (Int × Int)) (h : W.ownsRow base 48 2 v l.length (l.flatMap encE)) : Kd.R k48 48 W base (fun _ => True) v (l.map ofP) := by
  refine ⟨fun _ _ => trivial, l.flatMap encE, ?_, ?_, ?_⟩
  · rw [List.length_map]; exact h
  · rw [flat_len, List.length_map]; rfl
  · intro j p hj
    have := flat_chunk (l.map ofP) j p hj
    rw [toP_ofP] at this
    show k48.M _ _ _ p (((l.flatMap encE).drop (j * 2)).take 2)
    rw [this]
    exact k48_mkM _ _ _ p
/-- The sort's inner functions at no element. -/
theorem ins_nil (fv : Value) (w : World) : Calls Tryd.prog 129 #[.slice none 0 0, .int .i64 0, .int .i64 0, fv] w fun e w' => e = .returned (.tuple #[]) ∧ w = w' := by
  go_enter Tryd.func129, Tryd.ntmps129
  go_wp2_with fail
  refine wp_loop_rounds 1 ?_
  rw [rounds_succ]
  go_wp2_with fail
  go_end0
  exact ⟨rfl, rfl⟩
theorem pdq_nil (m : Int) (fv : Value) (w : World) : Calls Tryd.prog 93 #[.slice none 0 0, .int .i64 0, .int .i64 0, .int .i64 m, fv] w fun e w' => e = .returned (.tuple #[]) ∧ w = w' := by
  have HI := Aside0.mk (ins_nil fv w)
  go_enter Tryd.func93, Tryd.ntmps93
  go_wp2_with fail
  refine wp_loop_rounds 1 ?_
  rw [rounds_succ]
  go_wp2_with fail
  refine HI.out.mono ?_
  rintro e w' ⟨rfl, rfl⟩
  go_wp2_with fail
  refine bodyPost_ret (results_none rfl _ _ _) rfl ?_
  exact ⟨rfl, rfl⟩
theorem sort_nil (fv : Value) (w : World) : Calls Tryd.prog 65 #[.slice none 0 0, fv] w fun e w' => e = .returned (.tuple #[]) ∧ w = w' := by
  go_enter Tryd.func65, Tryd.ntmps65
  go_wp2_with fail
  refine (Tryd.bits_Len 0 w (by decide) (by decide)).mono ?_
  rintro e w' ⟨rfl, rfl⟩
  go_wp2_with fail
  refine (pdq_nil _ fv _).mono ?_
  rintro e w' ⟨rfl, rfl⟩
  go_wp2_with fail
  go_end0
  exact ⟨rfl, rfl⟩
set_option maxHeartbeats 4000000 in
theorem feast_Sort.calls (A0 : Option Addr) (c0 : Nat) (l0 : List (S48)) (r : List (S48)) (w : World) (hr0 : Kd.C k48 w A0 l0.length l0) (hc0 : l0.length ≤ c0) (h : feast_Sort.f l0 = some r) :
    Calls Tryd.prog 39 #[.slice A0 l0.length c0] w fun e w' => ∃ v0_ : Value, e = .returned (v0_) ∧ Kd.R k48 48 w' w.heap.size (fun _ => True) v0_ r ∧ Below w.heap.size w w' := by
  have hlen : l0.length ≤ 8796093022208 := by unfold feast_Sort.f at h; split at h <;> first | assumption | cases h
  rw [feast_Sort.f, if_pos hlen] at h
  have h' := Option.some.inj h
  subst h'
  clear h
  cases A0 with
  | none =>
    have hn : l0 = [] := by
      by_cases hz : l0.length = 0
      · exact List.length_eq_zero_iff.1 hz
      · obtain ⟨ad, he, _⟩ := hr0.2.2 (by omega)
        cases he
    subst hn
    clear hr0
    have HC : Aside0 (∀ W, Calls Tryd.prog 64 #[.slice none 0 c0] W fun e w' => e = .returned (.slice none 0 0) ∧ W = w') := ⟨fun W => (AnyE.slices_Clone_nil Tryd.cloneEv 0 c0 W).mono fun e w' h => ⟨h.1, h.2.symm⟩⟩
    have HS : Aside0 (∀ W, Calls Tryd.prog 65 #[.slice none 0 0, .func (.func 66) #[] #[]] W fun e w' => e = .returned (.tuple #[]) ∧ W = w') := ⟨fun W => sort_nil _ W⟩
    simp only [List.length_nil]
    go_enter Tryd.func39, Tryd.ntmps39
    go_wp2_with fail
    refine (HC.out _).mono ?_
    rintro e W1 ⟨rfl, rfl⟩
    go_wp2_with fail
    refine (HS.out _).mono ?_
    rintro e W2 ⟨rfl, rfl⟩
    go_wp2_with fail
    go_ret
    exact ⟨_, rfl, Kd.R_nil _ _ _ _ _, Below.refl _ _⟩
  | some ad =>
    obtain ⟨inner, hreps, hcells⟩ := ReadsRow.inner_ hr0
    have hin : inner = (l0.map toP).flatMap encE := reps_flat l0 inner hreps.1 (fun j p hj => k48_open (hreps.2 j p hj))
    subst hin
    have hlm : (l0.map toP).length = l0.length := List.length_map _
    have HC := Aside0.mk (clone_any ad l0.length c0 ((l0.map toP).flatMap encE) w (by rw [flat_len, hlm]) (by have : (8796093022208 : Nat) ≤ maxLen := by decide
                                                                                                              omega) (by omega) hcells (fun u hu => by
      obtain ⟨x, _, hx⟩ := List.mem_flatMap.1 hu
      simp [encE] at hx
      rcases hx with rfl | rfl <;> rfl))
    have HL := Aside0.mk hlen
    have HLM := Aside0.mk hlm
    clear hr0 hreps hcells hc0 hlen hlm
    go_enter Tryd.func39, Tryd.ntmps39
    go_wp2_with fail
    refine HC.out.mono ?_
    rintro e W1 ⟨v', rfl, hown, hnil, hb⟩
    rcases hown.2 with ⟨h0, _⟩ | ⟨g, cap, cur, hv, hg, hb1, hn, hcap, hcs, htk⟩
    · exact absurd h0 hnil
    subst hv
    have HS := Aside0.mk (sort_own g cap (l0.map toP) cur W1 w.heap.size hg hb1 (by rw [HLM.out]; exact hn) hcap hcs (by rw [HLM.out]; exact htk) (by rw [HLM.out]; have := HL.out; omega))
    rw [HLM.out] at HS
    have HB := Aside0.mk hb
    clear hown hnil hb hb1 hn hcap hcs htk hg HC
    go_wp2_with fail
    refine HS.out.mono ?_
    rintro e W2 ⟨rfl, hown, hb⟩
    have HO : Aside0 (Kd.R k48 48 W2 w.heap.size (fun _ => True) (.slice (some ⟨g, 0, none⟩) l0.length cap) ((Cal.sortE (l0.map toP)).map ofP)) := ⟨own_row_of _ (by rw [Cal.sortE_length, HLM.out]; exact hown)⟩
    have HB2 := Aside0.mk (HB.out.trans hb)
    clear hown hb
    go_wp2_with fail
    go_ret
    exact ⟨_, rfl, HO.out, HB2.out⟩

/-! ### code_Right: function 18 -/
def code_Right.f (a0_0 : Int) (a0_1 : Bool) : Option (Bool) := if a0_0 > 0 then (if a0_0 ≤ 12 then (if a0_0 = 5 then (some true) else (some (!a0_1))) else (some false)) else (some false)
set_option maxHeartbeats 8000000 in
set_option maxRecDepth 100000 in
theorem code_Right.calls (a0_0 : Int) (a0_1 : Bool) (r : Bool) (w : World) (h : code_Right.f a0_0 a0_1 = some r) :
    Calls Tryd.prog 18 #[.agg #[.int .i64 a0_0, .bool a0_1]] w fun e w' => e = .returned (.bool r) ∧ Below w.heap.size w w' := by
  have hu23 := Tryd.underlying23
  have HB := Aside0.mk (Below.refl w.heap.size w)
  have H : (if a0_0 > 0 then (if a0_0 ≤ 12 then (if a0_0 = 5 then (some true) else (some (!a0_1))) else (some false)) else (some false)) = some r := h
  clear h
  by_cases c2 : a0_0 > 0
  · rw [if_pos c2] at H
    have c2b0 : decide (0 < a0_0) = true := decide_eq_true c2
    clear c2
    by_cases c3 : a0_0 ≤ 12
    · rw [if_pos c3] at H
      have c3b0 : decide (a0_0 ≤ 12) = true := decide_eq_true c3
      clear c3
      by_cases c4 : a0_0 = 5
      · rw [if_pos c4] at H
        have c4b0 : (a0_0 == 5) = true := beq_iff_eq.mpr c4
        have c4b1 : (a0_0 != 5) = false := bne_eq_false_iff_eq.mpr c4
        clear c4
        obtain rfl := Option.some.inj H
        go_enter Tryd.func18, Tryd.ntmps18
        go_wp2_with (first | ((with_reducible refine gate_dst (N := 1) rfl ?_); refine box_event ?hg (N := 1) ?hd (cs := #[.int .i64 a0_0, .bool a0_1]) (t := 23) ?hr ?_; (case hd => rfl); (case hg => rfl); (case hr => first | (go_simp; done) | (go_simp; rfl)); intro gb101 hg w5 hbox hb; have n0_ := Aside0.mk (below_step (by repeat (first | (with_reducible first | exact HB.out | apply below_alloc | apply pw_below_drewN | apply below_drew1) | exact HB.out)) hb); have n1_ := Aside0.mk (hbox); have n2_ := Aside0.mk ((by rw [hg]; exact (below_size (by repeat (first | (with_reducible first | exact HB.out | apply below_alloc | apply pw_below_drewN | apply below_drew1) | exact HB.out))) : w.heap.size ≤ gb101)); have n3_ := Aside0.mk ((by rw [hg]; exact (below_size (by repeat (first | (with_reducible first | exact HB.out | apply below_alloc | apply pw_below_drewN | apply below_drew1) | exact HB.out))) : w.heap.size ≤ gb101)); clear HB; have HB := n0_; have BK101 := n1_; have GW101 := n2_; have GE101 := n3_; clear n0_ n1_ n2_ n3_; clear hb hbox hg; have hcz6_0 : w5.cell? ⟨gb101, 0, none⟩ = some (.int .i64 a0_0) := (blk_cell BK101.out 0).trans rfl; have hcz6_1 : w5.cell? ⟨gb101, 1, none⟩ = some (.bool a0_1) := (blk_cell BK101.out 1).trans rfl; have hfz6_0 := blk_frozen BK101.out 0; have hfz6_1 := blk_frozen BK101.out 1))
        go_ret
        exact ⟨by first | rfl | (simp [errW_none, errW_some] <;> rfl) | (simp [*, errW_none, errW_some] <;> rfl), by repeat (first | (with_reducible first | exact HB.out | apply below_alloc | apply pw_below_drewN | apply below_drew1 | refine below_set ?_ GE101.out) | exact HB.out)⟩
      · rw [if_neg c4] at H
        have c4b0 : (a0_0 == 5) = false := beq_eq_false_iff_ne.mpr c4
        have c4b1 : (a0_0 != 5) = true := bne_iff_ne.mpr c4
        obtain rfl := Option.some.inj H
        go_enter Tryd.func18, Tryd.ntmps18
        go_wp2_with (first | ((with_reducible refine gate_dst (N := 1) rfl ?_); refine box_event ?hg (N := 1) ?hd (cs := #[.int .i64 a0_0, .bool a0_1]) (t := 23) ?hr ?_; (case hd => rfl); (case hg => rfl); (case hr => first | (go_simp; done) | (go_simp; rfl)); intro gb101 hg w7 hbox hb; have n0_ := Aside0.mk (below_step (by repeat (first | (with_reducible first | exact HB.out | apply below_alloc | apply pw_below_drewN | apply below_drew1) | exact HB.out)) hb); have n1_ := Aside0.mk (hbox); have n2_ := Aside0.mk ((by rw [hg]; exact (below_size (by repeat (first | (with_reducible first | exact HB.out | apply below_alloc | apply pw_below_drewN | apply below_drew1) | exact HB.out))) : w.heap.size ≤ gb101)); have n3_ := Aside0.mk ((by rw [hg]; exact (below_size (by repeat (first | (with_reducible first | exact HB.out | apply below_alloc | apply pw_below_drewN | apply below_drew1) | exact HB.out))) : w.heap.size ≤ gb101)); clear HB; have HB := n0_; have BK101 := n1_; have GW101 := n2_; have GE101 := n3_; clear n0_ n1_ n2_ n3_; clear hb hbox hg; have hcz8_0 : w7.cell? ⟨gb101, 0, none⟩ = some (.int .i64 a0_0) := (blk_cell BK101.out 0).trans rfl; have hcz8_1 : w7.cell? ⟨gb101, 1, none⟩ = some (.bool a0_1) := (blk_cell BK101.out 1).trans rfl; have hfz8_0 := blk_frozen BK101.out 0; have hfz8_1 := blk_frozen BK101.out 1))
        go_ret
        exact ⟨by first | rfl | (simp [errW_none, errW_some] <;> rfl) | (simp [*, errW_none, errW_some] <;> rfl), by repeat (first | (with_reducible first | exact HB.out | apply below_alloc | apply pw_below_drewN | apply below_drew1 | refine below_set ?_ GE101.out) | exact HB.out)⟩
    · rw [if_neg c3] at H
      have c3b0 : decide (a0_0 ≤ 12) = false := decide_eq_false c3
      clear c3
      obtain rfl := Option.some.inj H
      go_enter Tryd.func18, Tryd.ntmps18
      go_wp2_with (first | ((with_reducible refine gate_dst (N := 1) rfl ?_); refine box_event ?hg (N := 1) ?hd (cs := #[.int .i64 a0_0, .bool a0_1]) (t := 23) ?hr ?_; (case hd => rfl); (case hg => rfl); (case hr => first | (go_simp; done) | (go_simp; rfl)); intro gb101 hg w9 hbox hb; have n0_ := Aside0.mk (below_step (by repeat (first | (with_reducible first | exact HB.out | apply below_alloc | apply pw_below_drewN | apply below_drew1) | exact HB.out)) hb); have n1_ := Aside0.mk (hbox); have n2_ := Aside0.mk ((by rw [hg]; exact (below_size (by repeat (first | (with_reducible first | exact HB.out | apply below_alloc | apply pw_below_drewN | apply below_drew1) | exact HB.out))) : w.heap.size ≤ gb101)); have n3_ := Aside0.mk ((by rw [hg]; exact (below_size (by repeat (first | (with_reducible first | exact HB.out | apply below_alloc | apply pw_below_drewN | apply below_drew1) | exact HB.out))) : w.heap.size ≤ gb101)); clear HB; have HB := n0_; have BK101 := n1_; have GW101 := n2_; have GE101 := n3_; clear n0_ n1_ n2_ n3_; clear hb hbox hg; have hcz10_0 : w9.cell? ⟨gb101, 0, none⟩ = some (.int .i64 a0_0) := (blk_cell BK101.out 0).trans rfl; have hcz10_1 : w9.cell? ⟨gb101, 1, none⟩ = some (.bool a0_1) := (blk_cell BK101.out 1).trans rfl; have hfz10_0 := blk_frozen BK101.out 0; have hfz10_1 := blk_frozen BK101.out 1))
      go_ret
      exact ⟨by first | rfl | (simp [errW_none, errW_some] <;> rfl) | (simp [*, errW_none, errW_some] <;> rfl), by repeat (first | (with_reducible first | exact HB.out | apply below_alloc | apply pw_below_drewN | apply below_drew1 | refine below_set ?_ GE101.out) | exact HB.out)⟩
  · rw [if_neg c2] at H
    have c2b0 : decide (0 < a0_0) = false := decide_eq_false c2
    clear c2
    obtain rfl := Option.some.inj H
    go_enter Tryd.func18, Tryd.ntmps18
    go_wp2_with (first | ((with_reducible refine gate_dst (N := 1) rfl ?_); refine box_event ?hg (N := 1) ?hd (cs := #[.int .i64 a0_0, .bool a0_1]) (t := 23) ?hr ?_; (case hd => rfl); (case hg => rfl); (case hr => first | (go_simp; done) | (go_simp; rfl)); intro gb101 hg w11 hbox hb; have n0_ := Aside0.mk (below_step (by repeat (first | (with_reducible first | exact HB.out | apply below_alloc | apply pw_below_drewN | apply below_drew1) | exact HB.out)) hb); have n1_ := Aside0.mk (hbox); have n2_ := Aside0.mk ((by rw [hg]; exact (below_size (by repeat (first | (with_reducible first | exact HB.out | apply below_alloc | apply pw_below_drewN | apply below_drew1) | exact HB.out))) : w.heap.size ≤ gb101)); have n3_ := Aside0.mk ((by rw [hg]; exact (below_size (by repeat (first | (with_reducible first | exact HB.out | apply below_alloc | apply pw_below_drewN | apply below_drew1) | exact HB.out))) : w.heap.size ≤ gb101)); clear HB; have HB := n0_; have BK101 := n1_; have GW101 := n2_; have GE101 := n3_; clear n0_ n1_ n2_ n3_; clear hb hbox hg; have hcz12_0 : w11.cell? ⟨gb101, 0, none⟩ = some (.int .i64 a0_0) := (blk_cell BK101.out 0).trans rfl; have hcz12_1 : w11.cell? ⟨gb101, 1, none⟩ = some (.bool a0_1) := (blk_cell BK101.out 1).trans rfl; have hfz12_0 := blk_frozen BK101.out 0; have hfz12_1 := blk_frozen BK101.out 1))
    go_ret
    exact ⟨by first | rfl | (simp [errW_none, errW_some] <;> rfl) | (simp [*, errW_none, errW_some] <;> rfl), by repeat (first | (with_reducible first | exact HB.out | apply below_alloc | apply pw_below_drewN | apply below_drew1 | refine below_set ?_ GE101.out) | exact HB.out)⟩

/-! ### code_Place: function 24 -/
def code_Place.j0 : Nat → Bool → Bool → Int → Bool → Option (Int × Bool)
  | 0, _, _, _, _ => none
  | k + 1, x0, x6, x103000, x103001 => if x6 = true then (some (0, false)) else (if x0 = true then (if x103001 = true then (some (wrap64 (x103000 + 1), true)) else (if x103000 > 5 then (some (wrap64 (x103000 + 1), true)) else (some (x103000, true)))) else (some (x103000, true)))
def code_Place.f (k : Nat) (a0 : Bool) (a1_0 : Int) (a1_1 : Bool) : Option (Int × Bool) := (code_Right.f a1_0 a1_1).bind fun t103 => (if t103 = true then (if a1_1 = true then (code_Place.j0 k a0 (!a0) a1_0 a1_1) else (code_Place.j0 k a0 false a1_0 a1_1)) else (code_Place.j0 k a0 true a1_0 a1_1))
theorem code_Place.mono_l : ∀ k, (∀ y0 y1 y2 y3, LeO (code_Place.j0 k y0 y1 y2 y3) (code_Place.j0 (k + 1) y0 y1 y2 y3))
  | 0 => fun _ _ _ _ r h => by simp [code_Place.j0] at h
  | k + 1 => by
    have ih0 := code_Place.mono_l k
    · intro y0 y1 y2 y3
      unfold code_Place.j0
      repeat' first
      | (with_reducible exact ih0 _ _ _ _)
      | (with_reducible exact LeO.refl _)
      | (with_reducible exact LeO.none _)
      | (with_reducible refine LeO.ite ?_ ?_)
      | (with_reducible refine LeO.bind ?_ (fun _ => ?_))
      | exact ih0 _ _ _ _
      | exact LeO.none _
      | refine LeO.ite ?_ ?_
      | refine LeO.bind ?_ (fun _ => ?_)
theorem code_Place.mono : ∀ a0 a1 a2 k, LeO (code_Place.f k a0 a1 a2) (code_Place.f (k + 1) a0 a1 a2) := by
  intro a0 a1 a2 k
  have ih0 := code_Place.mono_l k
  unfold code_Place.f
  repeat' first
      | (with_reducible exact ih0 _ _ _ _)
      | (with_reducible exact LeO.refl _)
      | (with_reducible exact LeO.none _)
      | (with_reducible refine LeO.ite ?_ ?_)
      | (with_reducible refine LeO.bind ?_ (fun _ => ?_))
      | exact ih0 _ _ _ _
      | exact LeO.none _
      | refine LeO.ite ?_ ?_
      | refine LeO.bind ?_ (fun _ => ?_)
set_option maxHeartbeats 8000000 in
set_option maxRecDepth 100000 in
theorem code_Place.calls (k : Nat) (a0 : Bool) (a1_0 : Int) (a1_1 : Bool) (r1 : Int) (r2 : Bool) (w : World) (h : code_Place.f k a0 a1_0 a1_1 = some (r1, r2)) :
    Calls Tryd.prog 24 #[.bool a0, .agg #[.int .i64 a1_0, .bool a1_1]] w fun e w' => e = .returned (.tuple #[.int .i64 r1, .bool r2]) ∧ Below w.heap.size w w' := by
  have hu23 := Tryd.underlying23
  have HB := Aside0.mk (Below.refl w.heap.size w)
  have H : ((code_Right.f a1_0 a1_1).bind fun t103 => (if t103 = true then (if a1_1 = true then (code_Place.j0 k a0 (!a0) a1_0 a1_1) else (code_Place.j0 k a0 false a1_0 a1_1)) else (code_Place.j0 k a0 true a1_0 a1_1))) = some (r1, r2) := h
  clear h
  have HC3 := Aside0.mk H
  clear H
  go_enter Tryd.func24, Tryd.ntmps24
  go_upto_region 1 with (first | ((with_reducible refine gate_dst (N := 3) rfl ?_); refine box_event ?hg (N := 3) ?hd (cs := #[.int .i64 a1_0, .bool a1_1]) (t := 23) ?hr ?_; (case hd => rfl); (case hg => rfl); (case hr => first | (go_simp; done) | (go_simp; rfl)); intro gb102 hg w4 hbox hb; have n0_ := Aside0.mk (below_step (by repeat (first | (with_reducible first | exact HB.out | apply below_alloc | apply pw_below_drewN | apply below_drew1) | exact HB.out)) hb); have n1_ := Aside0.mk (hbox); have n2_ := Aside0.mk ((by rw [hg]; exact (below_size (by repeat (first | (with_reducible first | exact HB.out | apply below_alloc | apply pw_below_drewN | apply below_drew1) | exact HB.out))) : w.heap.size ≤ gb102)); have n3_ := Aside0.mk ((by rw [hg]; exact (below_size (by repeat (first | (with_reducible first | exact HB.out | apply below_alloc | apply pw_below_drewN | apply below_drew1) | exact HB.out))) : w.heap.size ≤ gb102)); clear HB; have HB := n0_; have BK102 := n1_; have GW102 := n2_; have GE102 := n3_; clear n0_ n1_ n2_ n3_; clear hb hbox hg))
  (try simp only [Act.put, List.setIfInBounds_toArray, List.set_cons_zero, List.set_cons_succ])
  go_cut [6] (fun v6 wc => ∃ (kq : Nat) (x6_2 : Bool), v6 = .bool x6_2 ∧ Aside0 (code_Place.j0 kq a0 x6_2 a1_0 a1_1 = some (r1, r2)) ∧ Aside0 (kq ≤ k) ∧ Aside0 (wc.heap[gb102]? = some (.cells #[.int .i64 a1_0, .bool a1_1] 23 (0, 0))) ∧ Aside0 (Below w.heap.size w wc))
  case first =>
    have H := HC3.out
    clear HC3
    replace H := Option.bind_eq_some_iff.mp H
    obtain ⟨t103, A50, H⟩ := H
    replace H : (if t103 = true then (if a1_1 = true then (code_Place.j0 k a0 (!a0) a1_0 a1_1) else (code_Place.j0 k a0 false a1_0 a1_1)) else (code_Place.j0 k a0 true a1_0 a1_1)) = some (r1, r2) := H
    have A5 := Aside0.mk A50
    clear A50
    by_cases c6 : t103 = true
    · subst c6
      have H1 : (if a1_1 = true then (code_Place.j0 k a0 (!a0) a1_0 a1_1) else (code_Place.j0 k a0 false a1_0 a1_1)) = some (r1, r2) := by rw [if_pos rfl] at H; exact H
      clear H
      have H := H1
      clear H1
      by_cases c7 : a1_1 = true
      · subst c7
        have H1 : (code_Place.j0 k a0 (!a0) a1_0 true) = some (r1, r2) := by rw [if_pos rfl] at H; exact H
        clear H
        have H := H1
        clear H1
        have H' := Aside0.mk H
        clear H
        have hcz8_0 : w4.cell? ⟨gb102, 0, none⟩ = some (.int .i64 a1_0) := (blk_cell BK102.out 0).trans rfl
        have hcz8_1 : w4.cell? ⟨gb102, 1, none⟩ = some (.bool true) := (blk_cell BK102.out 1).trans rfl
        have hfz8_0 := blk_frozen BK102.out 0
        have hfz8_1 := blk_frozen BK102.out 1
        go_wp2_with (first | ((with_reducible refine gate_callee (f := 18) rfl ?_); refine goesL_ (some 8) rfl rfl Tryd.func18 (by kernel_rfl) rfl #[.agg #[.int .i64 a1_0, .bool true]] rfl (by (try simp only [List.map_toArray, List.map_cons, List.map_nil]); first | done | rfl | (simp only [List.length_drop, List.length_take]; rfl)) ?_; (with_reducible refine (code_Right.calls a1_0 true true _ A5.out).mono ?_); rintro e w9 ⟨rfl, hb⟩; refine ⟨_, rfl, ?_⟩; have n0_ := Aside0.mk (blk_below (g := gb102) (o := .cells #[.int .i64 a1_0, .bool true] 23 (0, 0)) (by (with_reducible repeat (first | refine blk_drewN ?_ _ | refine blk_drew ?_ | refine blk_alloc ?_ _)); exact BK102.out) hb); have n1_ := Aside0.mk (below_step (by repeat (first | (with_reducible first | exact HB.out | apply below_alloc | apply pw_below_drewN | apply below_drew1 | refine below_set ?_ GE102.out) | exact HB.out)) hb); clear BK102; clear HB; have BK102 := n0_; have HB := n1_; clear n0_ n1_; (try clear hb); (try clear hb2); (try clear hk); (try clear hi); have hcz10_0 : w9.cell? ⟨gb102, 0, none⟩ = some (.int .i64 a1_0) := (blk_cell BK102.out 0).trans rfl; have hcz10_1 : w9.cell? ⟨gb102, 1, none⟩ = some (.bool true) := (blk_cell BK102.out 1).trans rfl; have hfz10_0 := blk_frozen BK102.out 0; have hfz10_1 := blk_frozen BK102.out 1))
        go_meet
        case rel => exact ⟨_, (!a0), (by first | rfl | (simp; done) | (simp [*]; done)), H', ⟨by first | omega | exact Nat.le_refl _⟩, ⟨by (with_reducible repeat (first | refine blk_drewN ?_ _ | refine blk_drew ?_ | refine blk_alloc ?_ _)); exact BK102.out⟩, ⟨by repeat (first | (with_reducible first | exact HB.out | apply below_alloc | apply pw_below_drewN | apply below_drew1 | refine below_set ?_ GE102.out) | exact HB.out)⟩⟩
      · replace c7 := Bool.eq_false_iff.mpr c7
        subst c7
        have H1 : (code_Place.j0 k a0 false a1_0 false) = some (r1, r2) := by rw [if_neg (show ¬ (false = true) by decide)] at H; exact H
        clear H
        have H := H1
        clear H1
        have H' := Aside0.mk H
        clear H
        have hcz11_0 : w4.cell? ⟨gb102, 0, none⟩ = some (.int .i64 a1_0) := (blk_cell BK102.out 0).trans rfl
        have hcz11_1 : w4.cell? ⟨gb102, 1, none⟩ = some (.bool false) := (blk_cell BK102.out 1).trans rfl
        have hfz11_0 := blk_frozen BK102.out 0
        have hfz11_1 := blk_frozen BK102.out 1
        go_wp2_with (first | ((with_reducible refine gate_callee (f := 18) rfl ?_); refine goesL_ (some 8) rfl rfl Tryd.func18 (by kernel_rfl) rfl #[.agg #[.int .i64 a1_0, .bool false]] rfl (by (try simp only [List.map_toArray, List.map_cons, List.map_nil]); first | done | rfl | (simp only [List.length_drop, List.length_take]; rfl)) ?_; (with_reducible refine (code_Right.calls a1_0 false true _ A5.out).mono ?_); rintro e w12 ⟨rfl, hb⟩; refine ⟨_, rfl, ?_⟩; have n0_ := Aside0.mk (blk_below (g := gb102) (o := .cells #[.int .i64 a1_0, .bool false] 23 (0, 0)) (by (with_reducible repeat (first | refine blk_drewN ?_ _ | refine blk_drew ?_ | refine blk_alloc ?_ _)); exact BK102.out) hb); have n1_ := Aside0.mk (below_step (by repeat (first | (with_reducible first | exact HB.out | apply below_alloc | apply pw_below_drewN | apply below_drew1 | refine below_set ?_ GE102.out) | exact HB.out)) hb); clear BK102; clear HB; have BK102 := n0_; have HB := n1_; clear n0_ n1_; (try clear hb); (try clear hb2); (try clear hk); (try clear hi); have hcz13_0 : w12.cell? ⟨gb102, 0, none⟩ = some (.int .i64 a1_0) := (blk_cell BK102.out 0).trans rfl; have hcz13_1 : w12.cell? ⟨gb102, 1, none⟩ = some (.bool false) := (blk_cell BK102.out 1).trans rfl; have hfz13_0 := blk_frozen BK102.out 0; have hfz13_1 := blk_frozen BK102.out 1))
        go_meet
        case rel => exact ⟨_, (false), (by first | rfl | (simp; done) | (simp [*]; done)), H', ⟨by first | omega | exact Nat.le_refl _⟩, ⟨by (with_reducible repeat (first | refine blk_drewN ?_ _ | refine blk_drew ?_ | refine blk_alloc ?_ _)); exact BK102.out⟩, ⟨by repeat (first | (with_reducible first | exact HB.out | apply below_alloc | apply pw_below_drewN | apply below_drew1 | refine below_set ?_ GE102.out) | exact HB.out)⟩⟩
    · replace c6 := Bool.eq_false_iff.mpr c6
      subst c6
      have H1 : (code_Place.j0 k a0 true a1_0 a1_1) = some (r1, r2) := by rw [if_neg (show ¬ (false = true) by decide)] at H; exact H
      clear H
      have H := H1
      clear H1
      have H' := Aside0.mk H
      clear H
      have hcz14_0 : w4.cell? ⟨gb102, 0, none⟩ = some (.int .i64 a1_0) := (blk_cell BK102.out 0).trans rfl
      have hcz14_1 : w4.cell? ⟨gb102, 1, none⟩ = some (.bool a1_1) := (blk_cell BK102.out 1).trans rfl
      have hfz14_0 := blk_frozen BK102.out 0
      have hfz14_1 := blk_frozen BK102.out 1
      go_wp2_with (first | ((with_reducible refine gate_callee (f := 18) rfl ?_); refine goesL_ (some 8) rfl rfl Tryd.func18 (by kernel_rfl) rfl #[.agg #[.int .i64 a1_0, .bool a1_1]] rfl (by (try simp only [List.map_toArray, List.map_cons, List.map_nil]); first | done | rfl | (simp only [List.length_drop, List.length_take]; rfl)) ?_; (with_reducible refine (code_Right.calls a1_0 a1_1 false _ A5.out).mono ?_); rintro e w15 ⟨rfl, hb⟩; refine ⟨_, rfl, ?_⟩; have n0_ := Aside0.mk (blk_below (g := gb102) (o := .cells #[.int .i64 a1_0, .bool a1_1] 23 (0, 0)) (by (with_reducible repeat (first | refine blk_drewN ?_ _ | refine blk_drew ?_ | refine blk_alloc ?_ _)); exact BK102.out) hb); have n1_ := Aside0.mk (below_step (by repeat (first | (with_reducible first | exact HB.out | apply below_alloc | apply pw_below_drewN | apply below_drew1 | refine below_set ?_ GE102.out) | exact HB.out)) hb); clear BK102; clear HB; have BK102 := n0_; have HB := n1_; clear n0_ n1_; (try clear hb); (try clear hb2); (try clear hk); (try clear hi)))
      go_meet
      case rel => exact ⟨_, (true), (by first | rfl | (simp; done) | (simp [*]; done)), H', ⟨by first | omega | exact Nat.le_refl _⟩, ⟨by (with_reducible repeat (first | refine blk_drewN ?_ _ | refine blk_drew ?_ | refine blk_alloc ?_ _)); exact BK102.out⟩, ⟨by repeat (first | (with_reducible first | exact HB.out | apply below_alloc | apply pw_below_drewN | apply below_drew1 | refine below_set ?_ GE102.out) | exact HB.out)⟩⟩
  case rest =>
    clear HC3
    try clear c1
    try clear c2
    try clear p2
    try clear c6
    try clear c7
    try clear hcz10_0
    try clear hcz10_1
    try clear hcz11_0
    try clear hcz11_1
    try clear hcz13_0
    try clear hcz13_1
    try clear hcz14_0
    try clear hcz14_1
    try clear hcz8_0
    try clear hcz8_1
    try clear hfz10_0
    try clear hfz10_1
    try clear hfz11_0
    try clear hfz11_1
    try clear hfz13_0
    try clear hfz13_1
    try clear hfz14_0
    try clear hfz14_1
    try clear hfz8_0
    try clear hfz8_1
    obtain ⟨kq, x6_2, rfl, HA, HJ2, BK102, HB⟩ := hcut
    cases kq with
    | zero => exact absurd HA.out (by simp [code_Place.j0])
    | succ kj2 =>
      have H := HA.out
      clear HA
      simp only [code_Place.j0] at H
      by_cases c16 : x6_2 = true
      · subst c16
        have H1 : (some (0, false)) = some (r1, r2) := by rw [if_pos rfl] at H; exact H
        clear H
        have H := H1
        clear H1
        simp only [Option.some.injEq, Prod.mk.injEq] at H
        obtain ⟨rfl, rfl⟩ := H
        go_wp2
        go_ret2
        exact ⟨by first | rfl | (simp [errW_none, errW_some] <;> rfl) | (simp [*, errW_none, errW_some] <;> rfl), by repeat (first | (with_reducible first | exact HB.out | apply below_alloc | apply pw_below_drewN | apply below_drew1 | refine below_set ?_ GE102.out) | exact HB.out)⟩
      · replace c16 := Bool.eq_false_iff.mpr c16
        subst c16
        have H1 : (if a0 = true then (if a1_1 = true then (some (wrap64 (a1_0 + 1), true)) else (if a1_0 > 5 then (some (wrap64 (a1_0 + 1), true)) else (some (a1_0, true)))) else (some (a1_0, true))) = some (r1, r2) := by rw [if_neg (show ¬ (false = true) by decide)] at H; exact H
        clear H
        have H := H1
        clear H1
        by_cases c17 : a0 = true
        · subst c17
          have H1 : (if a1_1 = true then (some (wrap64 (a1_0 + 1), true)) else (if a1_0 > 5 then (some (wrap64 (a1_0 + 1), true)) else (some (a1_0, true)))) = some (r1, r2) := by rw [if_pos rfl] at H; exact H
          clear H
          have H := H1
          clear H1
          by_cases c18 : a1_1 = true
          · subst c18
            have H1 : (some (wrap64 (a1_0 + 1), true)) = some (r1, r2) := by rw [if_pos rfl] at H; exact H
            clear H
            have H := H1
            clear H1
            simp only [Option.some.injEq, Prod.mk.injEq] at H
            obtain ⟨rfl, rfl⟩ := H
            have hcz19_0 : wc.cell? ⟨gb102, 0, none⟩ = some (.int .i64 a1_0) := (blk_cell BK102.out 0).trans rfl
            have hcz19_1 : wc.cell? ⟨gb102, 1, none⟩ = some (.bool true) := (blk_cell BK102.out 1).trans rfl
            have hfz19_0 := blk_frozen BK102.out 0
            have hfz19_1 := blk_frozen BK102.out 1
            go_wp2
            go_ret2
            exact ⟨by first | rfl | (simp [errW_none, errW_some] <;> rfl) | (simp [*, errW_none, errW_some] <;> rfl), by repeat (first | (with_reducible first | exact HB.out | apply below_alloc | apply pw_below_drewN | apply below_drew1 | refine below_set ?_ GE102.out) | exact HB.out)⟩
          · replace c18 := Bool.eq_false_iff.mpr c18
            subst c18
            have H1 : (if a1_0 > 5 then (some (wrap64 (a1_0 + 1), true)) else (some (a1_0, true))) = some (r1, r2) := by rw [if_neg (show ¬ (false = true) by decide)] at H; exact H
            clear H
            have H := H1
            clear H1
            by_cases c20 : a1_0 > 5
            · rw [if_pos c20] at H
              have c20b0 : decide (5 < a1_0) = true := decide_eq_true c20
              clear c20
              simp only [Option.some.injEq, Prod.mk.injEq] at H
              obtain ⟨rfl, rfl⟩ := H
              have hcz21_0 : wc.cell? ⟨gb102, 0, none⟩ = some (.int .i64 a1_0) := (blk_cell BK102.out 0).trans rfl
              have hcz21_1 : wc.cell? ⟨gb102, 1, none⟩ = some (.bool false) := (blk_cell BK102.out 1).trans rfl
              have hfz21_0 := blk_frozen BK102.out 0
              have hfz21_1 := blk_frozen BK102.out 1
              go_wp2
              go_ret2
              exact ⟨by first | rfl | (simp [errW_none, errW_some] <;> rfl) | (simp [*, errW_none, errW_some] <;> rfl), by repeat (first | (with_reducible first | exact HB.out | apply below_alloc | apply pw_below_drewN | apply below_drew1 | refine below_set ?_ GE102.out) | exact HB.out)⟩
            · rw [if_neg c20] at H
              have c20b0 : decide (5 < a1_0) = false := decide_eq_false c20
              clear c20
              simp only [Option.some.injEq, Prod.mk.injEq] at H
              obtain ⟨rfl, rfl⟩ := H
              have hcz22_0 : wc.cell? ⟨gb102, 0, none⟩ = some (.int .i64 a1_0) := (blk_cell BK102.out 0).trans rfl
              have hcz22_1 : wc.cell? ⟨gb102, 1, none⟩ = some (.bool false) := (blk_cell BK102.out 1).trans rfl
              have hfz22_0 := blk_frozen BK102.out 0
              have hfz22_1 := blk_frozen BK102.out 1
              go_wp2
              go_ret2
              exact ⟨by first | rfl | (simp [errW_none, errW_some] <;> rfl) | (simp [*, errW_none, errW_some] <;> rfl), by repeat (first | (with_reducible first | exact HB.out | apply below_alloc | apply pw_below_drewN | apply below_drew1 | refine below_set ?_ GE102.out) | exact HB.out)⟩
        · replace c17 := Bool.eq_false_iff.mpr c17
          subst c17
          have H1 : (some (a1_0, true)) = some (r1, r2) := by rw [if_neg (show ¬ (false = true) by decide)] at H; exact H
          clear H
          have H := H1
          clear H1
          simp only [Option.some.injEq, Prod.mk.injEq] at H
          obtain ⟨rfl, rfl⟩ := H
          have hcz23_0 : wc.cell? ⟨gb102, 0, none⟩ = some (.int .i64 a1_0) := (blk_cell BK102.out 0).trans rfl
          have hcz23_1 : wc.cell? ⟨gb102, 1, none⟩ = some (.bool a1_1) := (blk_cell BK102.out 1).trans rfl
          have hfz23_0 := blk_frozen BK102.out 0
          have hfz23_1 := blk_frozen BK102.out 1
          go_wp2
          go_ret2
          exact ⟨by first | rfl | (simp [errW_none, errW_some] <;> rfl) | (simp [*, errW_none, errW_some] <;> rfl), by repeat (first | (with_reducible first | exact HB.out | apply below_alloc | apply pw_below_drewN | apply below_drew1 | refine below_set ?_ GE102.out) | exact HB.out)⟩

/-! ### exact_both: function 122 -/
def exact_both.f (a0 : Int) (a1 : Int) : Option (Int × Int) := if a1 = 0 then (none) else (if (Int.tmod a0 a1) < 0 then (some (wrap64 ((wrap64 (Int.tdiv a0 a1)) - 1), wrap64 ((Int.tmod a0 a1) + a1))) else (some (wrap64 (Int.tdiv a0 a1), Int.tmod a0 a1)))
set_option maxHeartbeats 8000000 in
set_option maxRecDepth 100000 in
theorem exact_both.calls (a0 : Int) (a1 : Int) (r1 : Int) (r2 : Int) (w : World) (h : exact_both.f a0 a1 = some (r1, r2)) :
    Calls Tryd.prog 122 #[.int .i64 a0, .int .i64 a1] w fun e w' => e = .returned (.tuple #[.int .i64 r1, .int .i64 r2]) ∧ Drawn0 w w' := by
  have H : (if a1 = 0 then (none) else (if (Int.tmod a0 a1) < 0 then (some (wrap64 ((wrap64 (Int.tdiv a0 a1)) - 1), wrap64 ((Int.tmod a0 a1) + a1))) else (some (wrap64 (Int.tdiv a0 a1), Int.tmod a0 a1)))) = some (r1, r2) := h
  clear h
  by_cases c3 : a1 = 0
  · rw [if_pos c3] at H
    exact absurd H (by simp)
  · rw [if_neg c3] at H
    have c3b0 : (a1 == 0) = false := beq_eq_false_iff_ne.mpr c3
    have c3b1 : (a1 != 0) = true := bne_iff_ne.mpr c3
    by_cases c4 : (Int.tmod a0 a1) < 0
    · rw [if_pos c4] at H
      have c4b0 : decide ((Int.tmod a0 a1) < 0) = true := decide_eq_true c4
      clear c4
      simp only [Option.some.injEq, Prod.mk.injEq] at H
      obtain ⟨rfl, rfl⟩ := H
      go_enter Tryd.func122, Tryd.ntmps122
      go_wp2
      repeat (go_quiet (fail); try go_wp2)
      go_ret2
      exact ⟨by first | rfl | (simp; done) | (simp [*]; done), by repeat (first | exact Drawn0.refl _ | apply Drawn0.step)⟩
    · rw [if_neg c4] at H
      have c4b0 : decide ((Int.tmod a0 a1) < 0) = false := decide_eq_false c4
      clear c4
      simp only [Option.some.injEq, Prod.mk.injEq] at H
      obtain ⟨rfl, rfl⟩ := H
      go_enter Tryd.func122, Tryd.ntmps122
      go_wp2
      repeat (go_quiet (fail); try go_wp2)
      go_ret2
      exact ⟨by first | rfl | (simp; done) | (simp [*]; done), by repeat (first | exact Drawn0.refl _ | apply Drawn0.step)⟩

end Go.Proofs.YtflpddhoiafhcaaDoor.F
