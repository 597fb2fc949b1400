/- The contract of the program's function behind the hole 'month_of', by a walk over its text. -/
import Derived.Test.YtflpddhoiafhcaaDoorProg
import Derived.Below
import Derived.Deep.Draws
import Derived.OwnWalk
import Derived.Tactics
import Derived.WalkKit
import Derived.KernelRfl
import Derived.RowKit3
import Derived.Deep.LoopGhost
import Derived.Deep.QuietTactic
import Derived.BigQuiet
import Derived.WideLaws
import Derived.Deep.DeepCutAuto
import Derived.Deep.CutBlock
import Derived.Deep.RegionHeld3
import Derived.Laws.Rows
import Derived.OrdersHeld
import Derived.Outline
import Derived.Test.YtflpddhoiafhcaaDoorWWords
import Derived.Test.YtflpddhoiafhcaaDoorWLast
import Derived.Test.YtflpddhoiafhcaaDoorWTab
import Derived.Test.YtflpddhoiafhcaaDoorWFour
import Derived.Test.YtflpddhoiafhcaaDoorWQPut
import Derived.Test.YtflpddhoiafhcaaDoorWApart
import Derived.Test.YtflpddhoiafhcaaDoorWArr
import Derived.Test.YtflpddhoiafhcaaDoorWZeros
import Derived.Test.YtflpddhoiafhcaaDoorWFoot
import Derived.Test.YtflpddhoiafhcaaDoorWKept
import Derived.Test.YtflpddhoiafhcaaDoorWShare
import Derived.Test.YtflpddhoiafhcaaDoorWN
import Derived.Test.YtflpddhoiafhcaaDoorWFootNe
import Derived.Test.YtflpddhoiafhcaaDoorWAt
import Derived.Test.YtflpddhoiafhcaaDoorWEqStruct
import Derived.Test.YtflpddhoiafhcaaDoorWRepsOne
import Derived.Test.YtflpddhoiafhcaaDoorWInv
import Derived.Test.YtflpddhoiafhcaaDoorWInvWords
import Derived.Test.YtflpddhoiafhcaaDoorWGuard
import Derived.Test.YtflpddhoiafhcaaDoorWNEv
import Derived.Test.YtflpddhoiafhcaaDoorWMore
import Derived.Test.YtflpddhoiafhcaaDoorGlob
import Derived.Test.YtflpddhoiafhcaaDoorShlKev
import Derived.Deep.RegionHeld3
import Derived.IntWalk
import Derived.RegionTactic
import Derived.ChangeAlike
import Derived.Laws.Tables
import Derived.Laws.CopyOwn
namespace Go.Proofs.YtflpddhoiafhcaaDoor.H
open Go.RowKit Go.Proofs.YtflpddhoiafhcaaDoorW.PrintWords Go.Proofs.YtflpddhoiafhcaaDoorW.PrintLast Go.Proofs.YtflpddhoiafhcaaDoorW.PrintMore
attribute [local go_sem] max2_int min2_int max_two min_two max_three min_three max_four min_four
set_option linter.unusedVariables false
set_option linter.unusedSimpArgs false
/-- The model's '==' of two types. -/
theorem kev_eq : EqlAt Tryd.prog 111 (fun x => .agg (encK x).toArray) Cal.tyEq := by
  refine ⟨fun x y w => ?_, GuardAt.agg _ (by kernel_rfl)⟩
  have u3 := Tryd.underlying3
  have a3 := Tryd.isAgg3
  have z3 := Tryd.sizeOf3
  have u4 := Tryd.underlying4
  have a4 := Tryd.isAgg4
  have z4 := Tryd.sizeOf4
  have hS : Tryd.prog.underlying 111 = some (.struct (Tryd.prog.fieldsOf 111)) := by kernel_rfl
  have hp : Tryd.prog.stoodInHeld 111 = false := by kernel_rfl
  simp only [encK, Cal.tyEq]
  rw [run_eql_struct, show (10000 : Nat) = 9999 + 1 from rfl, run_equalIn_agg w 9999 111 _ _ hS hp]
  simp only [Program.fieldsOf, Tryd.underlying111]
  go_simp
  obtain ⟨x1, x2, x3⟩ := x
  obtain ⟨y1, y2, y3⟩ := y
  by_cases h1 : x1 = y1 <;> by_cases h2 : x2 = y2 <;> cases x3 <;> cases y3 <;> simp [h1, h2]
theorem idxBy_from (x : Int × Int × Bool) : ∀ (l : List (Int × Int × Bool)) (i : Nat), Go.Lib.idxByFrom Cal.tyEq x l i = if Cal.idxFrom x l ((i : Int) + 1) = 0 then -1 else Cal.idxFrom x l ((i : Int) + 1) - 1
  | [], i => by simp [Go.Lib.idxByFrom, Cal.idxFrom]
  | y :: r, i => by
    unfold Go.Lib.idxByFrom Cal.idxFrom
    cases h : Cal.tyEq x y
    · simp only [Bool.false_eq_true, if_false]
      have := idxBy_from x r (i + 1)
      rw [this]
      rfl
    · simp only [if_true]
      rw [if_neg (by omega)]
      omega
theorem keviah_index (b k : Int) (l : Bool) (w : World) (HG : GlobT w) :
    Calls Tryd.prog 184 #[.slice (some ⟨6, 0, none⟩) 14 14, .agg #[.int .i64 b, .int .i64 k, .bool l]] w
      fun e w' => e = .returned (.int .i64 (Cal.tyNum b k l - 1)) ∧ Below w.heap.size w w' := by
  have h := AnyQ.slices_Index Tryd.indexKev 3 Tryd.isAgg111 Tryd.sizeOf111 encK (fun _ => rfl) Cal.tyEq kev_eq 6 0 14 14 Cal.tyList (b, k, l) w (by decide) (by decide) HG.typesAt
  refine h.mono ?_
  rintro e w' ⟨rfl, q, rfl⟩
  refine ⟨?_, pw_below_drewN ((Below.refl _ _).alloc (Nat.le_refl _) _) q⟩
  have e1 : Go.Lib.idxBy Cal.tyEq (List.take 14 Cal.tyList) (b, k, l) = Cal.tyNum b k l - 1 := by
    rw [show List.take 14 Cal.tyList = Cal.tyList from rfl, Go.Lib.idxBy, idxBy_from]
    show (if Cal.tyNum b k l = 0 then -1 else Cal.tyNum b k l - 1) = _
    split <;> omega
  rw [e1]
theorem ty_bounds (b k : Int) (l : Bool) : 0 ≤ Cal.tyNum b k l ∧ Cal.tyNum b k l ≤ 14 := by
  simp only [Cal.tyNum, Cal.tyList, Cal.idxFrom]
  repeat' split
  all_goals omega
/-- What a walk holds of its world: elder memory stands; the variables read as laid; a block of three cells. -/
structure KBox (w : World) (g : Nat) (b k : Int) (l : Bool) (W : World) : Prop where
  below : Below w.heap.size w W
  ge : w.heap.size ≤ g
  glob : GlobT W
  c0 : W.cell? ⟨g, 0, none⟩ = some (.int .i64 b)
  c1 : W.cell? ⟨g, 1, none⟩ = some (.int .i64 k)
  c2 : W.cell? ⟨g, 2, none⟩ = some (.bool l)
theorem KBox.step {w : World} {g : Nat} {b k : Int} {l : Bool} {W W' : World} (h : KBox w g b k l W) (hb : Below W.heap.size W W') : KBox w g b k l W' :=
  ⟨h.below.trans (hb.mono h.below.size), h.ge, h.glob.below hb, keep_cell hb h.c0, keep_cell hb h.c1, keep_cell hb h.c2⟩
theorem KBox.drew {w : World} {g : Nat} {b k : Int} {l : Bool} {W : World} (h : KBox w g b k l W) : KBox w g b k l W.drew := h.step (below_drew (Below.refl _ _))
theorem KBox.begin {w : World} (HG : GlobT w) (b k : Int) (l : Bool) : KBox w w.heap.size b k l (w.alloc (.cells #[.int .i64 b, .int .i64 k, .bool l] 111)) := by
  have hb : Below w.heap.size w (w.alloc (.cells #[.int .i64 b, .int .i64 k, .bool l] 111)) := (Below.refl _ _).alloc (Nat.le_refl _) _
  refine ⟨hb, Nat.le_refl _, HG.below hb, ?_, ?_, ?_⟩ <;> (rw [World.cell?_alloc_at _ _ _ _ (by simp)]; rfl)
theorem ret_i64 {a b : Int} (h : a = b) : Ending.returned (.int .i64 a) = .returned (.int .i64 b) := by rw [h]
theorem i64_plain {n : Int} (h0 : 0 ≤ n) (h1 : n ≤ 14) : IntKind.i64.wrap n = n := IntWalk.i64_in n (by omega)
theorem keviah_number (b k n : Int) (l : Bool) (hn : Cal.tyNum b k l = n) (w : World) (HG : GlobT w) :
    Calls Tryd.prog 161 #[.agg #[.int .i64 b, .int .i64 k, .bool l]] w fun e w' => e = .returned (.int .i64 n) ∧ Below w.heap.size w w' := by
  obtain ⟨hb0, hb1⟩ := ty_bounds b k l
  rw [hn] at hb0 hb1
  have hcon : ∀ W, KBox w w.heap.size b k l W → Calls Tryd.prog 184 #[.slice (some ⟨6, 0, none⟩) 14 14, .agg #[.int .i64 b, .int .i64 k, .bool l]] W
      fun e w' => e = .returned (.int .i64 (n - 1)) ∧ Below W.heap.size W w' := fun W hW => by
    have := keviah_index b k l W hW.glob; rwa [hn] at this
  have HC := Aside0.mk hcon
  have HK := Aside0.mk (KBox.begin HG b k l)
  clear hcon hn HG
  go_enter Tryd.func161, Tryd.ntmps161
  go_wp2_with fail
  go_region_held3 (fun W => KBox w w.heap.size b k l W ∧ W.cell? ⟨w.heap.size, 0, none⟩ = some (.int .i64 b) ∧ W.cell? ⟨w.heap.size, 1, none⟩ = some (.int .i64 k) ∧ W.cell? ⟨w.heap.size, 2, none⟩ = some (.bool l))
    (first | (have hz_ := HK.out.drew; exact ⟨hz_, hz_.c0, hz_.c1, hz_.c2⟩) | (have hz_ := KBox.step (And.left (by assumption)) hb; exact ⟨hz_, hz_.c0, hz_.c1, hz_.c2⟩))
    (first | (go_at_call 184; refine (HC.out _ (And.left (by assumption))).mono ?_; rintro e w' ⟨rfl, hb⟩))
  have hB := Aside0.mk (And.left (‹KBox w w.heap.size b k l _ ∧ _›)).below
  go_wp2
  go_ret
  exact ⟨ret_i64 (i64_plain hb0 hb1), hB.out⟩
/-- A month is put into a table that lies in block g. -/
theorem table_add (g n : Nat) (d : Int) (cs : Array Value) (w : World) (hn : n < 13) (hs : cs.size = 14) (hc : cs[13]? = some (.int .i64 n)) (hg : w.heap[g]? = some (.cells cs 149 (0, 0))) :
    Calls Tryd.prog 162 #[.pointer (some ⟨g, 0, none⟩), .int .i64 d] w
      fun e w' => e = .returned (.tuple #[]) ∧ w'.heap[g]? = some (.cells ((cs.setIfInBounds n (.int .i64 d)).setIfInBounds 13 (.int .i64 (n + 1))) 149 (0, 0)) ∧ Below g w w' := by
  have h0 : (0 : Int) ≤ n := by omega
  have h1 : (n : Int) < 13 := by omega
  have c1 : w.cell? ⟨g, 13, none⟩ = some (.int .i64 n) := (blk_cell hg 13).trans hc
  obtain ⟨v, hv⟩ : ∃ v, cs[n]? = some v := ⟨_, Array.getElem?_eq_getElem (by omega)⟩
  have c2 : w.cell? ⟨g, n, none⟩ = some v := (blk_cell hg n).trans hv
  have f2 : w.frozen? ⟨g, n, none⟩ = false := blk_frozen hg n
  have hg1 : (w.setCell ⟨g, n, none⟩ (.int .i64 d)).heap[g]? = some (.cells (cs.setIfInBounds n (.int .i64 d)) 149 (0, 0)) := blk_set hg n _
  have c3 : (w.setCell ⟨g, n, none⟩ (.int .i64 d)).cell? ⟨g, 13, none⟩ = some (.int .i64 n) := (blk_cell hg1 13).trans (by rw [Array.getElem?_setIfInBounds_ne (by omega)]; exact hc)
  have f3 : (w.setCell ⟨g, n, none⟩ (.int .i64 d)).frozen? ⟨g, 13, none⟩ = false := blk_frozen hg1 13
  have hg2 : ((w.setCell ⟨g, n, none⟩ (.int .i64 d)).setCell ⟨g, 13, none⟩ (.int .i64 (n + 1))).heap[g]? = some (.cells ((cs.setIfInBounds n (.int .i64 d)).setIfInBounds 13 (.int .i64 (n + 1))) 149 (0, 0)) := blk_set hg1 13 _
  have HG2 := Aside0.mk hg2
  clear hc hv hg hg1 hg2 hs
  go_enter Tryd.func162, Tryd.ntmps162
  go_wp2
  go_region
  go_wp2
  go_end0
  exact ⟨rfl, HG2.out, (((Below.refl g w).setCell (p := ⟨g, n, none⟩) (Nat.le_refl g) _).drew).setCell (p := ⟨g, 13, none⟩) (Nat.le_refl g) _⟩
/-- The cells of a table that holds these months. -/
def tcells (ms : List Int) : Array Value := ((ms ++ List.replicate (13 - ms.length) 0).map (fun n => Value.int .i64 n) ++ [.int .i64 ms.length]).toArray
theorem tcells_size (ms : List Int) (h : ms.length ≤ 13) : (tcells ms).size = 14 := by simp [tcells]; omega
theorem tcells_one (ms : List Int) : (tcells ms).all (·.oneCell') = true := by
  rw [Array.all_eq_true_iff_forall_mem]
  intro v hv
  simp only [tcells, List.mem_toArray, List.mem_append, List.mem_map, List.mem_singleton] at hv
  rcases hv with ⟨n, _, rfl⟩ | rfl <;> rfl
theorem tcells_last (ms : List Int) (h : ms.length ≤ 13) : (tcells ms)[13]? = some (.int .i64 ms.length) := by
  simp only [tcells, List.getElem?_toArray]
  rw [List.getElem?_append_right (by simp; omega)]
  have e : ((ms ++ List.replicate (13 - ms.length) 0).map (fun n => Value.int .i64 n)).length = 13 := by simp; omega
  rw [e]
  rfl
theorem tcells_snoc (ms : List Int) (d : Int) (h : ms.length < 13) :
    ((tcells ms).setIfInBounds ms.length (.int .i64 d)).setIfInBounds 13 (.int .i64 (ms.length + 1)) = tcells (ms ++ [d]) := by
  apply Array.ext_getElem?
  intro i
  have hs := tcells_size ms (by omega)
  by_cases h13 : i = 13
  · subst h13
    rw [Array.getElem?_setIfInBounds_self_of_lt (by rw [Array.size_setIfInBounds]; omega), tcells_last _ (by simp; omega)]
    simp
  · rw [Array.getElem?_setIfInBounds_ne (by omega)]
    by_cases hi : i = ms.length
    · subst hi
      rw [Array.getElem?_setIfInBounds_self_of_lt (by omega)]
      simp only [tcells, List.getElem?_toArray]
      rw [List.getElem?_append_left (by simp only [List.length_map, List.length_append, List.length_replicate, List.length_cons, List.length_nil]; omega)]
      simp
    · rw [Array.getElem?_setIfInBounds_ne (by omega)]
      simp only [tcells, List.getElem?_toArray]
      by_cases hl : i < 13
      · rw [List.getElem?_append_left (by simp; omega), List.getElem?_append_left (by simp only [List.length_map, List.length_append, List.length_replicate, List.length_cons, List.length_nil]; omega)]
        rw [List.getElem?_map, List.getElem?_map]
        congr 1
        by_cases hm : i < ms.length
        · rw [List.getElem?_append_left hm, List.append_assoc, List.getElem?_append_left hm]
        · rw [List.getElem?_append_right (by omega), List.getElem?_append_right (by simp; omega)]
          simp only [List.length_append, List.length_cons, List.length_nil]
          rw [List.getElem?_replicate, List.getElem?_replicate, if_pos (by omega), if_pos (by omega)]
      · rw [List.getElem?_eq_none (by simp; omega), List.getElem?_eq_none (by simp; omega)]
theorem table_add_list (g : Nat) (d : Int) (ms : List Int) (w : World) (hn : ms.length < 13) (hg : w.heap[g]? = some (.cells (tcells ms) 149 (0, 0))) :
    Calls Tryd.prog 162 #[.pointer (some ⟨g, 0, none⟩), .int .i64 d] w
      fun e w' => e = .returned (.tuple #[]) ∧ w'.heap[g]? = some (.cells (tcells (ms ++ [d])) 149 (0, 0)) ∧ Below g w w' := by
  refine (table_add g ms.length d (tcells ms) w hn (tcells_size ms (by omega)) (tcells_last ms (by omega)) hg).mono ?_
  rintro e w' ⟨he, h1, h2⟩
  exact ⟨he, (by rw [tcells_snoc ms d hn] at h1; exact h1), h2⟩
/-- An element of the months' table. -/
theorem plain_at (i : Nat) (h : i < 12) (w : World) : (Instr.index 184 (.agg plainCells) (.int .i64 i)).run Tryd.prog w = .ok (.int .i64 (Cal.plainList.getD i 0)) w := by
  rcases (by omega : i = 0 ∨ i = 1 ∨ i = 2 ∨ i = 3 ∨ i = 4 ∨ i = 5 ∨ i = 6 ∨ i = 7 ∨ i = 8 ∨ i = 9 ∨ i = 10 ∨ i = 11) with rfl | rfl | rfl | rfl | rfl | rfl | rfl | rfl | rfl | rfl | rfl | rfl <;> kernel_rfl
theorem plain_bd (i : Nat) (h : i < 12) : 29 ≤ Cal.plainList.getD i 0 ∧ Cal.plainList.getD i 0 ≤ 30 := by
  rcases (by omega : i = 0 ∨ i = 1 ∨ i = 2 ∨ i = 3 ∨ i = 4 ∨ i = 5 ∨ i = 6 ∨ i = 7 ∨ i = 8 ∨ i = 9 ∨ i = 10 ∨ i = 11) with rfl | rfl | rfl | rfl | rfl | rfl | rfl | rfl | rfl | rfl | rfl | rfl <;> simp [Cal.plainList]
theorem pre_lt (k : Int) (l : Bool) (i : Nat) (h : i < 12) : (Cal.pre k l i).length < 13 := by
  have := Cal.pre_len k l i
  split at this <;> omega
theorem pre_lt5 (k : Int) (i : Nat) (h : i = 5) : (Cal.pre k true i ++ [30]).length < 13 := by
  have := Cal.pre_len k true i
  rw [List.length_append, List.length_singleton]
  split at this <;> omega
theorem pre_five (k d : Int) (i : Nat) (h : i = 5) (hd : Cal.plainList.getD i 0 = d) : Cal.pre k true (i + 1) = Cal.pre k true i ++ [30] ++ [d] := by
  subst h
  rw [← hd]
  rfl
theorem pre_else (k d : Int) (l : Bool) (i : Nat) (h5 : ¬ (i = 5 ∧ l = true)) (h1 : ¬ (i = 1 ∧ k = 2)) (h2 : ¬ (i = 2 ∧ k = 0)) (hd : Cal.plainList.getD i 0 = d) : Cal.pre k l (i + 1) = Cal.pre k l i ++ [d] := by
  rw [Cal.pre, if_neg h5, if_neg h1, if_neg h2, hd, List.append_nil]
theorem pre_one (k d : Int) (l : Bool) (i : Nat) (h1 : i = 1) (hk : k = 2) (hd : Cal.plainList.getD i 0 = d) : Cal.pre k l (i + 1) = Cal.pre k l i ++ [d + 1] := by
  subst h1 hk
  rw [← hd]
  simp [Cal.pre, Cal.plainList]
theorem pre_two (k d : Int) (l : Bool) (i : Nat) (h1 : i = 2) (hk : k = 0) (hd : Cal.plainList.getD i 0 = d) : Cal.pre k l (i + 1) = Cal.pre k l i ++ [d - 1] := by
  subst h1 hk
  rw [← hd]
  simp [Cal.pre, Cal.plainList]
/-- What is held of the world behind the first call. -/
structure OfAt (w : World) (b k : Int) (l : Bool) (W : World) : Prop where
  below : Below w.heap.size w W
  bx : W.heap[w.heap.size]? = some (.cells #[.int .i64 b, .int .i64 k, .bool l] 111 (0, 0))
  out : W.heap[w.heap.size + 1]? = some (.cells (tcells []) 149 (0, 0))
theorem OfAt.step {w : World} {b k : Int} {l : Bool} {W W' : World} {B : Nat} (h : OfAt w b k l W) (hb : Below B W W') (hB : w.heap.size + 2 ≤ B) : OfAt w b k l W' :=
  ⟨h.below.trans (hb.mono (by omega)), (hb.block _ (by omega)).trans h.bx, (hb.block _ (by omega)).trans h.out⟩
theorem OfAt.size {w : World} {b k : Int} {l : Bool} {W : World} (h : OfAt w b k l W) : w.heap.size + 2 ≤ W.heap.size := (Array.getElem?_eq_some_iff.1 h.out).1
theorem OfAt.begin (w : World) (b k : Int) (l : Bool) :
    OfAt w b k l ((w.alloc (.cells #[.int .i64 b, .int .i64 k, .bool l] 111)).alloc (.cells #[.int .i64 0, .int .i64 0, .int .i64 0, .int .i64 0, .int .i64 0, .int .i64 0, .int .i64 0, .int .i64 0, .int .i64 0, .int .i64 0, .int .i64 0, .int .i64 0, .int .i64 0, .int .i64 0] 149)) := by
  refine ⟨((Below.refl _ _).alloc (Nat.le_refl _) _).alloc (by simp) _, ?_, ?_⟩
  · rw [Below.heap_alloc _ _ _ (by simp)]; exact heap_alloc_new w _
  · have := heap_alloc_new (w.alloc (.cells #[.int .i64 b, .int .i64 k, .bool l] 111)) (.cells #[.int .i64 0, .int .i64 0, .int .i64 0, .int .i64 0, .int .i64 0, .int .i64 0, .int .i64 0, .int .i64 0, .int .i64 0, .int .i64 0, .int .i64 0, .int .i64 0, .int .i64 0, .int .i64 0] 149)
    rw [World.size_alloc] at this
    exact this
set_option maxHeartbeats 4000000 in
set_option maxRecDepth 100000 in
theorem month_of (b k : Int) (l : Bool) (w : World) (HG : GlobT w) :
    Calls Tryd.prog 120 #[.agg #[.int .i64 b, .int .i64 k, .bool l]] w fun e w' => e = .returned (.agg (tcells (Cal.months b k l))) ∧ Below w.heap.size w w' := by
  have HA := Aside0.mk (OfAt.begin w b k l)
  by_cases hz : Cal.tyNum b k l = 0
  · have hm : Cal.months b k l = [] := by simp [Cal.months, hz]
    rw [hm]
    have HN := Aside0.mk hz
    have HGG := Aside0.mk HG
    clear hz hm HG
    go_enter Tryd.func120, Tryd.ntmps120
    go_wp2_with fail
    refine (keviah_number b k 0 l HN.out _ (HGG.out.below HA.out.below)).mono ?_
    rintro e W1 ⟨rfl, hb⟩
    have H1 := Aside0.mk (HA.out.step hb (Nat.le_of_eq (by simp)))
    clear hb HA
    go_wp2_with (first | ((refine wpList_store_row rfl 149 (.tmp 2) (.tmp 9) rfl (w.heap.size + 1) (tcells []) rfl (by rfl) 149 _ H1.out.out (by kernel_rfl) (by rfl) (tcells_one []) ?_)))
    refine bodyPost_ret (results_cell_row rfl _ _ (w.heap.size + 1) 149 (tcells []) (0, 0) _ rfl (setRow_heap _ _ _ _ _ _ H1.out.out) Tryd.underlying149 rfl (by kernel_rfl)) rfl ?_
    exact ⟨rfl, below_setRow H1.out.below (by omega) _⟩
  · have hm : Cal.months b k l = Cal.pre k l 12 := by rw [Cal.pre_all]; simp [Cal.months, hz]
    rw [hm]
    have ⟨hb0, hb1⟩ := ty_bounds b k l
    obtain ⟨n, hn⟩ : ∃ n, Cal.tyNum b k l = n := ⟨_, rfl⟩
    rw [hn] at hz hb0 hb1
    have hz1 : (n == 0) = false := by simpa using hz
    have HN := Aside0.mk hn
    have HGG := Aside0.mk HG
    clear hz hm HG hn
    go_enter Tryd.func120, Tryd.ntmps120
    go_wp2_with fail
    refine (keviah_number b k n l HN.out _ (HGG.out.below HA.out.below)).mono ?_
    rintro e W1 ⟨rfl, hb⟩
    have H1 := Aside0.mk (HA.out.step hb (Nat.le_of_eq (by simp)))
    have H2 := Aside0.mk (H1.out.step ((Below.refl W1.heap.size W1).alloc (Nat.le_refl _) (.cells #[.int .i64 0, .int .i64 0, .int .i64 0, .int .i64 0, .int .i64 0, .int .i64 0, .int .i64 0, .int .i64 0, .int .i64 0, .int .i64 0, .int .i64 0, .int .i64 0, .int .i64 0, .int .i64 0] 149)) H1.out.size)
    have H3 := Aside0.mk (show (W1.alloc (.cells #[.int .i64 0, .int .i64 0, .int .i64 0, .int .i64 0, .int .i64 0, .int .i64 0, .int .i64 0, .int .i64 0, .int .i64 0, .int .i64 0, .int .i64 0, .int .i64 0, .int .i64 0, .int .i64 0] 149)).heap[W1.heap.size]? = some (.cells (tcells []) 149 (0, 0)) from heap_alloc_new W1 _)
    have HS := Aside0.mk H1.out.size
    obtain ⟨t3, fr3, hp3⟩ := (HGG.out.below H2.out.below).plain
    have HP := Aside0.mk hp3
    clear hp3
    clear hb HA
    go_wp2_with (first | (refine wpList_load_row rfl 184 _ rfl 3 rfl t3 plainCells fr3 _ HP.out Tryd.underlying184 rfl (by kernel_rfl) ?_))
    go_loopw [11] (fun s11 wr => ∃ i : Nat, i ≤ 12 ∧ s11 = .int .i64 i ∧ Aside0 (OfAt w b k l wr) ∧ Aside0 (wr.heap[W1.heap.size]? = some (.cells (tcells (Cal.pre k l i)) 149 (0, 0)))) (fun s11 _ => 12 - (intOf s11).toNat)
    case atStart => exact ⟨0, by omega, rfl, H2, H3⟩
    case round =>
      obtain ⟨i, hi, rfl, HO, HT⟩ := hrel
      by_cases hlt : i < 12
      · obtain ⟨d, hd⟩ : ∃ d, Cal.plainList.getD i 0 = d := ⟨_, rfl⟩
        have hx : ∀ w, (Instr.index 184 (.agg plainCells) (.int .i64 i)).run Tryd.prog w = .ok (.int .i64 d) w := fun w => by rw [← hd]; exact plain_at i hlt w
        have hdb : 29 ≤ d ∧ d ≤ 30 := by rw [← hd]; exact plain_bd i hlt
        obtain ⟨hd0, hd1⟩ := hdb
        have HD := Aside0.mk hd
        have c1 : wr.cell? ⟨w.heap.size, 1, none⟩ = some (.int .i64 k) := (blk_cell HO.out.bx 1).trans rfl
        have c2 : wr.cell? ⟨w.heap.size, 2, none⟩ = some (.bool l) := (blk_cell HO.out.bx 2).trans rfl
        have hltz : (i : Int) < 12 := by omega
        have HLT := Aside0.mk hlt
        clear hd
        have hcall : ∀ (m : Int) (ms : List Int) (W : World), ms.length < 13 → W.heap[W1.heap.size]? = some (.cells (tcells ms) 149 (0, 0)) →
            Calls Tryd.prog 162 #[.pointer (some ⟨W1.heap.size, 0, none⟩), .int .i64 m] W
              fun e w' => e = .returned (.tuple #[]) ∧ w'.heap[W1.heap.size]? = some (.cells (tcells (ms ++ [m])) 149 (0, 0)) ∧ Below W1.heap.size W w' :=
          fun m ms W h1 h2 => table_add_list W1.heap.size m ms W h1 h2
        have HC := Aside0.mk hcall
        clear hcall
        by_cases h5 : i = 5
        · have e5 : ((i : Int) == 5) = true := by simp; omega
          have e1 : ((i : Int) == 1) = false := by simp; omega
          have e2 : ((i : Int) == 2) = false := by simp; omega
          have H5 := Aside0.mk h5
          clear h5
          cases l with
          | true =>
            go_wp2_with fail
            refine (HC.out 30 (Cal.pre k true i) _ (pre_lt _ _ _ HLT.out) HT.out).mono ?_
            rintro e w2 ⟨rfl, ht2, hb2⟩
            have HT2 := Aside0.mk ht2
            have HO2 := Aside0.mk (HO.out.step hb2 HS.out)
            clear ht2 hb2
            go_wp2_with fail
            refine (HC.out d (Cal.pre k true i ++ [30]) _ (pre_lt5 _ _ H5.out) HT2.out).mono ?_
            rintro e w3 ⟨rfl, ht3, hb3⟩
            have HT3 := Aside0.mk ht3
            have HO3 := Aside0.mk (HO2.out.step hb3 HS.out)
            clear ht3 hb3
            go_wp2
            go_roundw
            case measure => simp [intOf]; omega
            case rel => exact ⟨i + 1, by omega, by go_num, HO3, ⟨by rw [pre_five k d i H5.out HD.out]; exact HT3.out⟩⟩
          | false =>
            go_wp2_with fail
            refine (HC.out d (Cal.pre k false i) _ (pre_lt _ _ _ HLT.out) HT.out).mono ?_
            rintro e w3 ⟨rfl, ht3, hb3⟩
            have HT3 := Aside0.mk ht3
            have HO3 := Aside0.mk (HO.out.step hb3 HS.out)
            clear ht3 hb3
            go_wp2
            go_roundw
            case measure => simp [intOf]; omega
            case rel => exact ⟨i + 1, by omega, by go_num, HO3, ⟨by rw [pre_else k d false i (by simp) (by have := H5.out; omega) (by have := H5.out; omega) HD.out]; exact HT3.out⟩⟩
        · have e5 : ((i : Int) == 5) = false := by simp; omega
          have H5 := Aside0.mk h5
          clear h5
          by_cases h1 : i = 1
          · have e1 : ((i : Int) == 1) = true := by simp; omega
            have e2 : ((i : Int) == 2) = false := by simp; omega
            have H1i := Aside0.mk h1
            clear h1
            by_cases hk : k = 2
            · have ek : (k == 2) = true := by simp; omega
              have HK := Aside0.mk hk
              clear hk
              go_wp2_with fail
              refine (HC.out (d + 1) (Cal.pre k l i) _ (pre_lt _ _ _ HLT.out) HT.out).mono ?_
              rintro e w3 ⟨rfl, ht3, hb3⟩
              have HT3 := Aside0.mk ht3
              have HO3 := Aside0.mk (HO.out.step hb3 HS.out)
              clear ht3 hb3
              go_wp2
              go_roundw
              case measure => simp [intOf]; omega
              case rel => exact ⟨i + 1, by omega, by go_num, HO3, ⟨by rw [pre_one k d l i H1i.out HK.out HD.out]; exact HT3.out⟩⟩
            · have ek : (k == 2) = false := by simp; omega
              have HK := Aside0.mk hk
              clear hk
              go_wp2_with fail
              refine (HC.out d (Cal.pre k l i) _ (pre_lt _ _ _ HLT.out) HT.out).mono ?_
              rintro e w3 ⟨rfl, ht3, hb3⟩
              have HT3 := Aside0.mk ht3
              have HO3 := Aside0.mk (HO.out.step hb3 HS.out)
              clear ht3 hb3
              go_wp2
              go_roundw
              case measure => simp [intOf]; omega
              case rel => exact ⟨i + 1, by omega, by go_num, HO3, ⟨by rw [pre_else k d l i (fun h => H5.out h.1) (fun h => HK.out h.2) (by have := H1i.out; omega) HD.out]; exact HT3.out⟩⟩
          · have e1 : ((i : Int) == 1) = false := by simp; omega
            have H1i := Aside0.mk h1
            clear h1
            by_cases h2 : i = 2
            · have e2 : ((i : Int) == 2) = true := by simp; omega
              have H2i := Aside0.mk h2
              clear h2
              by_cases hk : k = 0
              · have ek : (k == 0) = true := by simp; omega
                have HK := Aside0.mk hk
                clear hk
                go_wp2_with fail
                refine (HC.out (d - 1) (Cal.pre k l i) _ (pre_lt _ _ _ HLT.out) HT.out).mono ?_
                rintro e w3 ⟨rfl, ht3, hb3⟩
                have HT3 := Aside0.mk ht3
                have HO3 := Aside0.mk (HO.out.step hb3 HS.out)
                clear ht3 hb3
                go_wp2
                go_roundw
                case measure => simp [intOf]; omega
                case rel => exact ⟨i + 1, by omega, by go_num, HO3, ⟨by rw [pre_two k d l i H2i.out HK.out HD.out]; exact HT3.out⟩⟩
              · have ek : (k == 0) = false := by simp; omega
                have HK := Aside0.mk hk
                clear hk
                go_wp2_with fail
                refine (HC.out d (Cal.pre k l i) _ (pre_lt _ _ _ HLT.out) HT.out).mono ?_
                rintro e w3 ⟨rfl, ht3, hb3⟩
                have HT3 := Aside0.mk ht3
                have HO3 := Aside0.mk (HO.out.step hb3 HS.out)
                clear ht3 hb3
                go_wp2
                go_roundw
                case measure => simp [intOf]; omega
                case rel => exact ⟨i + 1, by omega, by go_num, HO3, ⟨by rw [pre_else k d l i (fun h => H5.out h.1) (fun h => H1i.out h.1) (fun h => HK.out h.2) HD.out]; exact HT3.out⟩⟩
            · have e2 : ((i : Int) == 2) = false := by simp; omega
              have H2i := Aside0.mk h2
              clear h2
              go_wp2_with fail
              refine (HC.out d (Cal.pre k l i) _ (pre_lt _ _ _ HLT.out) HT.out).mono ?_
              rintro e w3 ⟨rfl, ht3, hb3⟩
              have HT3 := Aside0.mk ht3
              have HO3 := Aside0.mk (HO.out.step hb3 HS.out)
              clear ht3 hb3
              go_wp2
              go_roundw
              case measure => simp [intOf]; omega
              case rel => exact ⟨i + 1, by omega, by go_num, HO3, ⟨by rw [pre_else k d l i (fun h => H5.out h.1) (fun h => H1i.out h.1) (fun h => H2i.out h.1) HD.out]; exact HT3.out⟩⟩
      · obtain rfl : i = 12 := by omega
        have hlen : (Cal.pre k l 12).length ≤ 13 := by have := Cal.pre_len k l 12; split at this <;> omega
        have hs14 := tcells_size _ hlen
        obtain ⟨cs, hcs⟩ : ∃ cs, tcells (Cal.pre k l 12) = cs := ⟨_, rfl⟩
        have hone : cs.all (·.oneCell') = true := by rw [← hcs]; exact tcells_one _
        have HT2 : Aside0 (wr.heap[W1.heap.size]? = some (.cells cs 149 (0, 0))) := ⟨by rw [← hcs]; exact HT.out⟩
        rw [hcs] at hs14
        have HS14 := Aside0.mk hs14
        have HCS := Aside0.mk hcs
        have HONE := Aside0.mk hone
        have hi14 : (Tryd.prog.info? 149).map (·.size) = some 14 := by kernel_rfl
        have HI := Aside0.mk (show (Tryd.prog.info? 149).map (·.size) = some cs.size by rw [hs14]; exact hi14)
        clear hlen hs14 hcs hone hi14
        go_wp2_with (first | (refine wpList_load_row rfl 149 (.tmp 3) rfl W1.heap.size rfl 149 cs (0, 0) _ HT2.out Tryd.underlying149 rfl HI.out ?_) | (refine wpList_store_row rfl 149 (.tmp 2) (.tmp 45) rfl (w.heap.size + 1) cs rfl (by rfl) 149 _ HO.out.out HI.out (by rw [HS14.out]; rfl) HONE.out ?_))
        refine bodyPost_ret (results_cell_row rfl _ _ (w.heap.size + 1) 149 cs (0, 0) _ rfl (setRow_heap _ _ _ _ _ _ HO.out.out) Tryd.underlying149 rfl HI.out) rfl ?_
        exact ⟨by rw [HCS.out], below_setRow HO.out.below (by omega) _⟩
end Go.Proofs.YtflpddhoiafhcaaDoor.H
