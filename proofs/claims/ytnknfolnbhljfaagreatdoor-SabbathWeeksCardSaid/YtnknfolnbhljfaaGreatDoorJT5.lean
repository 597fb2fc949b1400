/- Texts of the proof, joined by a program (part 5): contracts of functions, plain laws. -/
import Derived.Test.YtnknfolnbhljfaaGreatDoorJT4
import Derived.Conc.FxBegin
import Derived.Conc.BesideWords
import Derived.Conc.AppendWalk
import Derived.Conc.TokenWalk
set_option linter.unusedVariables false
set_option linter.unusedSimpArgs false
set_option linter.unusedSectionVars false
section
/- Two goroutines that talk, beside others that only leave: the state, and its single steps. -/
set_option linter.unusedSectionVars false
set_option linter.unusedVariables false
set_option linter.unusedSimpArgs false
namespace Go.Proofs.YtnknfolnbhljfaaGreatDoor.Lift
open Go Go.Conc Go.ConcX
open Go.ConcN (sumTo upd sumTo_upd upd_ne upd_same)
section
variable (Mine : Loc → Prop) (Wg C : Nat) [Shy Wg C] (c : Nat) (t₀ : Trace)
/-- What the two traces bear: the small one of the two, the great one of all. -/
structure Tr (s T : Trace) (p : Nat) : Prop where
  lk : Linked c t₀ s T
  jt : JT Mine Wg C s p
  d0 : Deaf s 0 = 0
  d1 : Deaf s 1 = 0
  na : NoAcq Wg s
end
section
variable {Mine : Loc → Prop} {Wg C : Nat} [Shy Wg C] {c : Nat} {t₀ s T : Trace} {p : Nat}
theorem Tr.ev0 (h : Tr Mine Wg C c t₀ s T p) (hc : c ≠ 0) {es : Array Event} (hes : ∀ e ∈ es, EvQ Mine Wg C 0 e) (fn : FuncId) (pos : String) :
    Tr Mine Wg C c t₀ (s ++ MemOp.ofEvents 0 fn pos es) (T ++ MemOp.ofEvents 0 fn pos es) p :=
  ⟨h.lk.events hc (.inl rfl) fn pos es, h.jt.app (.inl rfl) (ok_of_EvQ hes) (fun e => by cases e), by rw [Deaf_own, h.d0, deafBehind_of_EvQ hes], by rw [Deaf_other s (by decide) _ g_of_ofEvents, h.d1], h.na.app (noacq_of_EvQ hes)⟩
theorem Tr.ev1 (h : Tr Mine Wg C c t₀ s T p) (hc : c ≠ 0) {es : Array Event} (hes : ∀ e ∈ es, EvQ Mine Wg C 1 e) (fn : FuncId) (pos : String) :
    Tr Mine Wg C c t₀ (s ++ MemOp.ofEvents 1 fn pos es) (T ++ MemOp.ofEvents c fn pos es) p :=
  ⟨h.lk.events hc (.inr rfl) fn pos es, h.jt.app (.inr rfl) (ok_of_EvQ hes) (fun _ => .inr h.na), by rw [Deaf_other s (by decide) _ g_of_ofEvents, h.d0], by rw [Deaf_own, h.d1, deafBehind_of_EvQ hes], h.na.app (noacq_of_EvQ hes)⟩
theorem deafStep_plain {g d : Nat} {op : MemOp} (h : ∀ m, op.act ≠ .mark m) : deafStep g d op = d := by
  obtain ⟨a, b, e, act⟩ := op
  cases act with
  | mark m => exact absurd rfl (h m)
  | _ => rfl
/-- An operation of one of the two that touches nothing. -/
theorem Tr.op (h : Tr Mine Wg C c t₀ s T p) (hc : c ≠ 0) (g : Nat) (hg : g = 0 ∨ g = 1) {op : MemOp} (hog : op.g = g) (ht : op.act.touch? = none) (hk : Shy.ok Wg C op.act) (hm : ∀ m, op.act ≠ .mark m) :
    Tr Mine Wg C c t₀ (s ++ #[op]) (T ++ #[renOp c op]) p := by
  obtain ⟨φ, L⟩ := h.lk
  refine ⟨⟨_, L.both hc (hog ▸ hg)⟩, h.jt.app hg (fun o ho => ?_) (fun _ => .inr h.na), by rw [Deaf_push, deafStep_plain hm, h.d0], by rw [Deaf_push, deafStep_plain hm, h.d1], h.na.app (fun o ho => ?_)⟩
  · obtain rfl : o = op := by simpa using ho
    exact ⟨hog, fun x hx => (by rw [ht] at hx; cases hx), hm _, hk⟩
  · obtain rfl : o = op := by simpa using ho
    exact hm _
/-- Four of them. -/
theorem Tr.ops4 (h : Tr Mine Wg C c t₀ s T p) (hc : c ≠ 0) {o1 o2 o3 o4 : MemOp} (hok : ∀ o, o = o1 ∨ o = o2 ∨ o = o3 ∨ o = o4 → (o.g = 0 ∨ o.g = 1) ∧ o.act.touch? = none ∧ Shy.ok Wg C o.act ∧ ∀ m, o.act ≠ .mark m) :
    Tr Mine Wg C c t₀ (s ++ #[o1, o2, o3, o4]) (T ++ #[renOp c o1, renOp c o2, renOp c o3, renOp c o4]) p := by
  have e1 : s ++ #[o1, o2, o3, o4] = s ++ #[o1] ++ #[o2] ++ #[o3] ++ #[o4] := by apply Array.toList_inj.1; simp
  have e2 : T ++ #[renOp c o1, renOp c o2, renOp c o3, renOp c o4] = T ++ #[renOp c o1] ++ #[renOp c o2] ++ #[renOp c o3] ++ #[renOp c o4] := by apply Array.toList_inj.1; simp
  obtain ⟨g1, a1, b1, c1⟩ := hok o1 (.inl rfl)
  obtain ⟨g2, a2, b2, c2⟩ := hok o2 (.inr (.inl rfl))
  obtain ⟨g3, a3, b3, c3⟩ := hok o3 (.inr (.inr (.inl rfl)))
  obtain ⟨g4, a4, b4, c4⟩ := hok o4 (.inr (.inr (.inr rfl)))
  rw [e1, e2]
  exact (((h.op hc _ g1 rfl a1 b1 c1).op hc _ g2 rfl a2 b2 c2).op hc _ g3 rfl a3 b3 c3).op hc _ g4 rfl a4 b4 c4
end
section
variable {P : Program} {c : Nat} {gs : Array Goroutine} {a b a' b' : Goroutine} {T : Trace} {q : Nat → Nat}
theorem big_hc0 (h : Big P c gs a b T q) : c ≠ 0 := Nat.ne_of_gt h.pos
theorem big_clt (h : Big P c gs a b T q) : c < gs.size := by rw [h.size]; exact Nat.lt_succ_self c
/-- A step of the caller's. -/
theorem big_own0 (h : Big P c gs a b T q) {w' : World} (hb : woken P a a' w' b = b') (fn : FuncId) (pos : String) (es : Array Event) :
    Big P c ((gs.map (woken P a a' w')).setIfInBounds 0 a') a' b' (T ++ MemOp.ofEvents 0 fn pos es) q := by
  have hlt : 0 < gs.size := by rw [h.size]; exact Nat.succ_pos c
  refine ⟨by simp [h.size], h.pos, by simp [hlt], ?_, fun j x hj hjc hx => ?_, fun j hj => by rw [Deaf_other T (g' := 0) (by omega) _ g_of_ofEvents]; exact h.above j hj⟩
  · rw [Array.getElem?_setIfInBounds_ne (Ne.symm (big_hc0 h)), Array.getElem?_map, h.hc, Option.map_some, hb]
  · rw [Array.getElem?_setIfInBounds_ne (by omega), Array.getElem?_map] at hx
    obtain ⟨y, hy, rfl⟩ := Option.map_eq_some_iff.1 hx
    have hq := h.old j y hj hjc hy
    rw [woken_quitsD hq, Deaf_other T (g' := 0) (by omega) _ g_of_ofEvents]
    exact hq
/-- A step of the child's. -/
theorem big_own1 (h : Big P c gs a b T q) {w' : World} (ha : woken P b b' w' a = a') (fn : FuncId) (pos : String) (es : Array Event) :
    Big P c ((gs.map (woken P b b' w')).setIfInBounds c b') a' b' (T ++ MemOp.ofEvents c fn pos es) q := by
  refine ⟨by simp [h.size], h.pos, ?_, by simp [big_clt h], fun j x hj hjc hx => ?_, fun j hj => by rw [Deaf_other T (g' := c) (by omega) _ g_of_ofEvents]; exact h.above j hj⟩
  · rw [Array.getElem?_setIfInBounds_ne (big_hc0 h), Array.getElem?_map, h.h0, Option.map_some, ha]
  · rw [Array.getElem?_setIfInBounds_ne (by omega), Array.getElem?_map] at hx
    obtain ⟨y, hy, rfl⟩ := Option.map_eq_some_iff.1 hx
    have hq := h.old j y hj hjc hy
    rw [woken_quitsD hq, Deaf_other T (g' := c) (by omega) _ g_of_ofEvents]
    exact hq
/-- The two are put anew; nobody says 'disable' or 'enable'. -/
theorem big_both (h : Big P c gs a b T q) {U : Trace} (hU : ∀ op ∈ U, op.act ≠ .mark .disable ∧ op.act ≠ .mark .enable) {gs' : Array Goroutine} (hs : gs'.size = gs.size) (h0 : gs'[0]? = some a') (h1 : gs'[c]? = some b')
    (ho : ∀ j, 0 < j → j < c → gs'[j]? = gs[j]?) : Big P c gs' a' b' (T ++ U) q :=
  ⟨hs.trans h.size, h.pos, h0, h1, fun j x hj hjc hx => by
    rw [ho j hj hjc] at hx
    rw [Deaf_keep _ j _ hU]
    exact h.old j x hj hjc hx, fun j hj => by rw [Deaf_keep _ j _ hU]; exact h.above j hj⟩
/-- Who may be picked. -/
theorem big_pick (h : Big P c gs a b T q) (ha : awake a) (hb : awake b) (hr : a.status = .running ∨ b.status = .running) (w : World) (sl : Option (Nat × Nat)) :
    ∃ i d sl', stepT P (crowd gs w sl) = runT P (crowd gs (w.at d) sl') i ∧ ((i = 0 ∧ a.status = .running) ∨ (i = c ∧ b.status = .running) ∨
      ∃ k g g' es, 0 < i ∧ i < c ∧ gs[i]? = some g ∧ q i = k + 1 ∧ (∀ e ∈ es, Event.mute e = true) ∧ (∀ w, stepG P false g w = .go g' w es) ∧ QuitsD P k (deafBehind (Deaf T i) es) g') := by
  have hsz := h.size
  have haw : ∀ g ∈ gs, awake g := by
    intro g hg
    obtain ⟨i, hi, rfl⟩ := Array.mem_iff_getElem.1 hg
    have hgi : gs[i]? = some gs[i] := Array.getElem?_eq_getElem hi
    by_cases h0 : i = 0
    · subst h0; rw [h.h0] at hgi; rw [← Option.some.inj hgi]; exact ha
    · by_cases h1 : i = c
      · subst h1; rw [h.hc] at hgi; rw [← Option.some.inj hgi]; exact hb
      · exact awake_of ((h.old i _ (by omega) (by omega) hgi).status.elim .inl fun x => .inr (.inr x))
  obtain ⟨i, g, d, sl', hi, hg, hst⟩ := crowd_pick (P := P) (w := w) (sl := sl) haw (hr.elim (fun x => ⟨0, a, h.h0, x⟩) (fun x => ⟨c, b, h.hc, x⟩))
  refine ⟨i, d, sl', hst, ?_⟩
  have hilt : i < gs.size := (Array.getElem?_eq_some_iff.1 hi).1
  by_cases h0 : i = 0
  · subst h0
    rw [h.h0] at hi
    exact .inl ⟨rfl, by rw [Option.some.inj hi]; exact hg⟩
  by_cases h1 : i = c
  · subst h1
    rw [h.hc] at hi
    exact .inr (.inl ⟨rfl, by rw [Option.some.inj hi]; exact hg⟩)
  have hq := h.old i g (by omega) (by omega) hi
  cases hqi : q i with
  | zero => rw [hqi] at hq; rw [hq.1] at hg; cases hg
  | succ k =>
    rw [hqi] at hq
    rcases hq with ⟨hf, _⟩ | ⟨_, g', es, hm, hstp, hq'⟩
    · rw [hf] at hg; cases hg
    exact .inr (.inr ⟨k, g, g', es, by omega, by omega, hi, rfl, hm, hstp, hq'⟩)
/-- One of the others slips. -/
theorem big_slip (h : Big P c gs a b T q) {i k : Nat} {g g' : Goroutine} {es : Array Event} (hi : 0 < i) (hic : i < c) (hg : gs[i]? = some g) (hq : q i = k + 1) (hm : ∀ e ∈ es, Event.mute e = true)
    (hst : ∀ w, stepG P false g w = .go g' w es) (hq' : QuitsD P k (deafBehind (Deaf T i) es) g') {w : World} {sl : Option (Nat × Nat)} (ha : woken P g g' w a = a') (hb : woken P g g' w b = b') :
    ∃ gs' q', runT P (crowd gs w sl) i = (.next (crowd gs' w sl), MemOp.ofEvents i g.frame.fn g.frame.place es) ∧ sumTo c q' < sumTo c q ∧ Big P c gs' a' b' (T ++ MemOp.ofEvents i g.frame.fn g.frame.place es) q' := by
  have hi0 : (i == 0) = false := by simp; omega
  have hilt : i < gs.size := (Array.getElem?_eq_some_iff.1 hg).1
  have hrunT := runT_crowd_go (P := P) (sl := sl) (i := i) hg (by rw [hi0]; exact hst w)
  have hsum : sumTo c (upd q i k) + (k + 1) = sumTo c q + k := by
    have := sumTo_upd q k id hic
    simpa [hq] using this
  refine ⟨_, upd q i k, hrunT, by omega, ⟨by simp [h.size], h.pos, ?_, ?_, fun j x hj hjc hx => ?_, fun j hj => by rw [Deaf_other T (g' := i) (by omega) _ g_of_ofEvents]; exact h.above j hj⟩⟩
  · rw [Array.getElem?_setIfInBounds_ne (by omega), Array.getElem?_map, h.h0, Option.map_some, ha]
  · rw [Array.getElem?_setIfInBounds_ne (by omega), Array.getElem?_map, h.hc, Option.map_some, hb]
  · by_cases hji : i = j
    · subst hji
      rw [Array.getElem?_setIfInBounds_self_of_lt (by simpa using hilt)] at hx
      obtain rfl := Option.some.inj hx
      rw [upd_same, Deaf_own]
      exact hq'
    · rw [Array.getElem?_setIfInBounds_ne hji, Array.getElem?_map] at hx
      obtain ⟨y, hy, rfl⟩ := Option.map_eq_some_iff.1 hx
      have hqj := h.old j y hj hjc hy
      rw [woken_quitsD hqj, upd_ne q k (Ne.symm hji), Deaf_other T hji _ g_of_ofEvents]
      exact hqj
theorem Tr.slip {Mine : Loc → Prop} {Wg C : Nat} [Shy Wg C] {t₀ s : Trace} {p i : Nat} (h : Tr Mine Wg C c t₀ s T p) (hi : 0 < i) (hic : i < c) (fn : FuncId) (pos : String) {es : Array Event} (hm : ∀ e ∈ es, Event.mute e = true) :
    Tr Mine Wg C c t₀ s (T ++ MemOp.ofEvents i fn pos es) p := ⟨h.lk.mutes (by omega) (by omega) fn pos hm, h.jt, h.d0, h.d1, h.na⟩
/-- Nobody but the two is parked. -/
theorem big_nobody (h : Big P c gs a b T q) {j : Nat} {g : Goroutine} (hj : gs[j]? = some g) (h0 : j ≠ 0) (h1 : j ≠ c) (r : Nat) (send : Bool) : offersAt g r send = [] := by
  have hlt : j < gs.size := (Array.getElem?_eq_some_iff.1 hj).1
  have hsz := h.size
  exact offersAt_of_not_blocked (by rcases (h.old j g (by omega) (by omega) hj).status with e | e <;> rw [e] <;> simp) r send
/-- No partner at all, as the two are not. -/
theorem big_alone (h : Big P c gs a b T q) {i : Nat} {r : Nat} {send : Bool} (ha : i = 0 ∨ offersAt a r send = []) (hb : i = c ∨ offersAt b r send = []) : partners (gs.setIfInBounds i ph) r send = [] := by
  refine partners_nil fun j g hj => ?_
  rcases getElem?_stand gs i j g hj with ⟨_, rfl⟩ | ⟨hji, hg⟩
  · rfl
  · by_cases h0 : j = 0
    · subst h0
      rw [h.h0] at hg
      rw [← Option.some.inj hg]
      exact ha.resolve_left fun e => hji e.symm
    · by_cases h1 : j = c
      · subst h1
        rw [h.hc] at hg
        rw [← Option.some.inj hg]
        exact hb.resolve_left fun e => hji e.symm
      · exact big_nobody h hg h0 h1 r send
end
end Go.Proofs.YtnknfolnbhljfaaGreatDoor.Lift
end

section
/- The two talk: the child offers value after value at a select (a send on Out, a receive on End); the caller walks, and receives. On whatever tape. -/
set_option linter.unusedSectionVars false
set_option linter.unusedVariables false
set_option linter.unusedSimpArgs false
namespace Go.Proofs.YtnknfolnbhljfaaGreatDoor.Lift
open Go Go.Conc Go.ConcX
open Go.ConcN (sumTo upd sumTo_upd upd_ne upd_same)
def RK (Low Out End Wg : Nat) (w w₁ : World) : Prop := ∀ b, b < Low → b ≠ Out → b ≠ End → b ≠ Wg → w₁.heap[b]? = w.heap[b]?
def cs2 (Out End : Nat) (zs ze v : Value) : Array CommCase := #[scase Out v zs, rcase End ze]
def Open (Out End : Nat) (w : World) : Prop := (∃ s r, w.heap[Out]? = some (.chan 0 #[] false s r false)) ∧ ∃ s r, w.heap[End]? = some (.chan 0 #[] false s r false)
section
variable (Mine : Loc → Prop) (Wg C : Nat) [Shy Wg C]
def DK (w w' : World) (es : Array Event) : Prop := (∃ d, w' = w.at d) ∧ ∀ e ∈ es, EvQ Mine Wg C 1 e
end
/-- A draw at most, and no event. -/
def Dq (w w' : World) (es : Array Event) : Prop := (∃ d, w' = w.at d) ∧ ∀ e ∈ es, False
theorem Dq.dk {Mine : Loc → Prop} {Wg C : Nat} [Shy Wg C] {w w' : World} {es : Array Event} (h : Dq w w' es) : DK Mine Wg C w w' es := ⟨h.1, fun e he => (h.2 e he).elim⟩
section
variable (P : Program) (D : World → World → Array Event → Prop) (Wg Low Out End : Nat) (zs ze : Value) (sh : CommShape) (Sel : Value → Goroutine → Prop)
/-- The child at its select. -/
structure KidOk (nx : Value → Value) : Prop where
  run : ∀ v g, Sel v g → g.status = .running
  comm : ∀ v g, Sel v g → ∀ w, stepG P false g w = .comm g (cs2 Out End zs ze v) true sh w #[]
  next : ∀ v g, Sel v g → ∀ w, ∃ m, Goes P false (RK Low Out End Wg) Dq (fun g _ => Sel (nx v) g) m (g.finishComm P (cs2 Out End zs ze v) sh 0 undef false) w
/-- It is on its way there, or parked there. -/
def Kid (mk : Nat) (v : Value) (b : Goroutine) (w : World) : Prop :=
  (∃ m, mk = m + 1 ∧ Goes P false (RK Low Out End Wg) D (fun g _ => Sel v g) m b w) ∨ (mk = 0 ∧ ∃ g, Sel v g ∧ b = parked g (cs2 Out End zs ze v) sh)
end
section
variable {P : Program} {D : World → World → Array Event → Prop} {Mine : Loc → Prop} {Wg C : Nat} [Shy Wg C] {Low Out End : Nat} {zs ze : Value} {sh : CommShape} {Sel : Value → Goroutine → Prop} {nx : Value → Value}
theorem RK.trans {a b c : World} (h : RK Low Out End Wg a b) (k : RK Low Out End Wg b c) : RK Low Out End Wg a c := fun i h1 h2 h3 h4 => (k i h1 h2 h3 h4).trans (h i h1 h2 h3 h4)
theorem rk_at (w : World) (d : Nat) : RK Low Out End Wg w (w.at d) := fun _ _ _ _ _ => rfl
theorem Open.of_heap {w w' : World} (h : Open Out End w) (e1 : w'.heap[Out]? = w.heap[Out]?) (e2 : w'.heap[End]? = w.heap[End]?) : Open Out End w' := by
  obtain ⟨⟨s, r, h1⟩, s', r', h2⟩ := h
  exact ⟨⟨s, r, e1.trans h1⟩, s', r', e2.trans h2⟩
theorem Kid.rely {mk : Nat} {v : Value} {b : Goroutine} {w w₁ : World} (h : Kid P D Wg Low Out End zs ze sh Sel mk v b w) (hr : RK Low Out End Wg w w₁) : Kid P D Wg Low Out End zs ze sh Sel mk v b w₁ :=
  h.imp (fun ⟨m, e, hg⟩ => ⟨m, e, Goes.rely (R := RK Low Out End Wg) (fun _ _ _ h1 h2 => RK.trans h1 h2) hg hr⟩) id
theorem again_cs2 {g : Goroutine} {w : World} {v : Value} (h : Open Out End w) : (parked g (cs2 Out End zs ze v) sh).again w = parked g (cs2 Out End zs ze v) sh := by
  obtain ⟨⟨s, r, h1⟩, s', r', h2⟩ := h
  simp [Goroutine.again, parked, cs2, scase, rcase, h1, h2]
theorem woken_cs2 {g a a' : Goroutine} {w : World} {v : Value} (h : Open Out End w) : woken P a a' w (parked g (cs2 Out End zs ze v) sh) = parked g (cs2 Out End zs ze v) sh := by
  unfold woken
  split
  · exact again_cs2 h
  · rfl
theorem Kid.awake {mk : Nat} {v : Value} {b : Goroutine} {w : World} (hK : KidOk P Wg Low Out End zs ze sh Sel nx) (h : Kid P D Wg Low Out End zs ze sh Sel mk v b w) : awake b := by
  rcases h with ⟨m, _, hg⟩ | ⟨_, g, _, rfl⟩
  · exact awake_of (.inl (hg.running (fun g _ x => hK.run _ _ x) w (fun _ _ _ _ _ => rfl)))
  · exact awake_of (.inr (.inl rfl))
theorem Kid.woken {mk : Nat} {v : Value} {b : Goroutine} {w w₁ : World} (hK : KidOk P Wg Low Out End zs ze sh Sel nx) (h : Kid P D Wg Low Out End zs ze sh Sel mk v b w) (ho : Open Out End w₁) (a a' : Goroutine) : woken P a a' w₁ b = b := by
  rcases h with ⟨m, _, hg⟩ | ⟨_, g, _, rfl⟩
  · exact woken_run (hg.running (fun g _ x => hK.run _ _ x) w (fun _ _ _ _ _ => rfl))
  · exact woken_cs2 ho
theorem offers_cs2 {g : Goroutine} {v : Value} (hne : Out ≠ End) : offersAt (parked g (cs2 Out End zs ze v) sh) Out true = [0] ∧ offersAt (parked g (cs2 Out End zs ze v) sh) End true = [] := by
  constructor
  · simp [offersAt, parked, cs2, scase, rcase, List.zipIdx, Array.zipIdx]
  · simp [offersAt, parked, cs2, scase, rcase, List.zipIdx, Array.zipIdx, hne]
end
section
variable {P : Program} {D : World → World → Array Event → Prop} {Mine : Loc → Prop} {Wg C : Nat} [Shy Wg C] {Low Out End : Nat} {zs ze : Value} {sh : CommShape} {Sel : Value → Goroutine → Prop} {nx : Value → Value} {c p : Nat} {t₀ : Trace}
theorem runNT_step {N : Nat} {m m' : Machine} {t : Trace} {ops : Array MemOp} {x : Stepped × Trace} (hs : stepT P m = (.next m', ops)) (hr : runNT P N m' (t ++ ops) = x) : runNT P (N + 1) m t = x := by
  simp only [runNT, hs]
  exact hr
/-- THE CALLER WALKS: to where the scheduler has picked it at its stop. -/
theorem talk_run (hD : ∀ w w' es, D w w' es → DK Mine Wg C w w' es) (hK : KidOk P Wg Low Out End zs ze sh Sel nx) (hOut : Out < Low) (hEnd : End < Low) {Stop : Goroutine → World → Prop} (hSr : ∀ g w, Stop g w → g.status = .running) :
    ∀ (M m mk : Nat) (gs : Array Goroutine) (a b : Goroutine) (w : World) (sl : Option (Nat × Nat)) (T s : Trace) (q : Nat → Nat) (v : Value), sumTo c q + m + mk ≤ M → Big P c gs a b T q → Tr Mine Wg C c t₀ s T p →
      Kid P D Wg Low Out End zs ze sh Sel mk v b w → Open Out End w → Goes P true AtRel (DPi Mine Wg C Low) Stop m a w →
      ∃ N gs' a' b' w' sl' T' s' q' mk' d sl'', runNT P N (crowd gs w sl) T = (.next (crowd gs' w' sl'), T') ∧ Big P c gs' a' b' T' q' ∧ Tr Mine Wg C c t₀ s' T' p ∧ Kid P D Wg Low Out End zs ze sh Sel mk' v b' (w'.at d) ∧
        Open Out End (w'.at d) ∧ Stop a' (w'.at d) ∧ stepT P (crowd gs' w' sl') = runT P (crowd gs' (w'.at d) sl'') 0 := by
  intro M
  induction M using Nat.strongRecOn with
  | _ M ih =>
    intro m mk gs a b w sl T s q v hM hB hT hk ho hG
    have ra : a.status = .running := hG.running hSr w (atRel_refl w)
    obtain ⟨i, d, sl', hst, hpick⟩ := big_pick hB (awake_of (.inl ra)) (hk.awake hK) (.inl ra) w sl
    have hk' := hk.rely (rk_at w d)
    have ho' : Open Out End (w.at d) := ho.of_heap rfl rfl
    rcases hpick with ⟨rfl, _⟩ | ⟨rfl, rb⟩ | ⟨k, g, g', es, h0, hc, hg, hq, hm, hstp, hq'⟩
    · rcases hG.cases with hstop | ⟨m', rfl, hstep⟩
      · exact ⟨0, gs, a, b, w, sl, T, s, q, mk, d, sl', rfl, hB, hT, hk', ho', hstop _ ⟨d, rfl⟩, hst⟩
      · obtain ⟨a', w', es, hgo, hD, hG'⟩ := hstep (w.at d) ⟨d, rfl⟩
        have hrunT := runT_crowd_go (P := P) (sl := sl') (i := 0) hB.h0 (show stepG P (0 == 0) a (w.at d) = _ from hgo)
        have ho2 : Open Out End w' := ho'.of_heap (hD.1 _ hOut) (hD.1 _ hEnd)
        have hwk := hk'.woken hK ho2 a a'
        obtain ⟨N, r⟩ := ih (sumTo c q + m' + mk) (by omega) m' mk _ a' b w' sl' _ _ q v (Nat.le_refl _) (big_own0 hB hwk a.frame.fn a.frame.place es) (hT.ev0 (big_hc0 hB) hD.2 a.frame.fn a.frame.place)
          (hk'.rely fun j h1 _ _ _ => hD.1 j h1) ho2 hG'
        obtain ⟨gs', a2, b2, w2, sl2, T2, s2, q2, mk2, d2, sl3, r1, r2⟩ := r
        exact ⟨N + 1, gs', a2, b2, w2, sl2, T2, s2, q2, mk2, d2, sl3, runNT_step (hst.trans hrunT) r1, r2⟩
    · rcases hk' with ⟨n, rfl, hg⟩ | ⟨_, g, _, rfl⟩
      · rcases hg.cases with hstop | ⟨n', rfl, hstep⟩
        · have hsel := hstop _ (fun _ _ _ _ _ => rfl : RK Low Out End Wg (w.at d) (w.at d))
          have hi0 : (i == 0) = false := by simp [big_hc0 hB]
          obtain ⟨⟨s1, r1, c1⟩, s2, r2, c2⟩ := ho'
          have hw := crowd_waits (P := P) (sl := sl') hB.hc (by rw [hi0]; exact hK.comm v b hsel (w.at d)) (by
            intro cc hcc
            have hp : ∀ r send, partners (gs.setIfInBounds i ph) r send = [] := fun r send => big_alone hB (.inr (offersAt_of_not_blocked (by rw [ra]; simp) r send)) (.inl rfl)
            simp only [cs2, List.mem_toArray, List.mem_cons, List.not_mem_nil, or_false] at hcc
            rcases hcc with rfl | rfl
            · exact ways_send_none c1 (by simp) (hp _ _)
            · exact ways_recv_none c2 (hp _ _))
          have e0 : ∀ X : Trace, X ++ MemOp.ofEvents i b.frame.fn b.frame.place #[] = X := fun X => by simp [MemOp.ofEvents]
          have hB' : Big P i (gs.setIfInBounds i (parked b (cs2 Out End zs ze v) sh)) a (parked b (cs2 Out End zs ze v) sh) (T ++ #[]) q :=
            big_both hB (by simp) (by simp) (by rw [Array.getElem?_setIfInBounds_ne (big_hc0 hB)]; exact hB.h0) (by simp [big_clt hB]) (fun j _ hj => Array.getElem?_setIfInBounds_ne (by omega))
          rw [Array.append_empty] at hB'
          obtain ⟨N, r⟩ := ih (sumTo i q + m + 0) (by omega) m 0 _ a _ (w.at d) sl' T s q v (Nat.le_refl _) hB' hT (.inr ⟨rfl, b, hsel, rfl⟩) ⟨⟨s1, r1, c1⟩, s2, r2, c2⟩ (Goes.rely atRel_trans hG ⟨d, rfl⟩)
          obtain ⟨gs', a2, b2, w2, sl2, T2, s2, q2, mk2, d2, sl3, r1, r2⟩ := r
          exact ⟨N + 1, gs', a2, b2, w2, sl2, T2, s2, q2, mk2, d2, sl3, runNT_step (hst.trans hw) (by rw [e0]; exact r1), r2⟩
        · obtain ⟨b', w', es, hgo, hDD, hg'⟩ := hstep _ (fun _ _ _ _ _ => rfl : RK Low Out End Wg (w.at d) (w.at d))
          obtain ⟨⟨d2, rfl⟩, hes⟩ := hD _ _ _ hDD
          have hi0 : (i == 0) = false := by simp [big_hc0 hB]
          have hrunT := runT_crowd_go (P := P) (sl := sl') (i := i) hB.hc (by rw [hi0]; exact hgo)
          obtain ⟨N, r⟩ := ih (sumTo i q + m + (n' + 1)) (by omega) m (n' + 1) _ a b' _ sl' _ _ q v (Nat.le_refl _) (big_own1 hB (woken_run ra) b.frame.fn b.frame.place es) (hT.ev1 (big_hc0 hB) hes b.frame.fn b.frame.place)
            (.inl ⟨n', rfl, hg'⟩) (ho'.of_heap rfl rfl) (Goes.rely atRel_trans hG ⟨d2, rfl⟩)
          obtain ⟨gs', a2, b2, w2, sl2, T2, s2, q2, mk2, d2, sl3, r1, r2⟩ := r
          exact ⟨N + 1, gs', a2, b2, w2, sl2, T2, s2, q2, mk2, d2, sl3, runNT_step (hst.trans hrunT) r1, r2⟩
      · cases rb
    · obtain ⟨gs', q', hrunT, hsum, hB'⟩ := big_slip hB h0 hc hg hq hm hstp hq' (w := w.at d) (sl := sl') (woken_run ra) (hk'.woken hK ho' g g')
      obtain ⟨N, r⟩ := ih (sumTo c q' + m + mk) (by omega) m mk _ a b _ sl' _ _ q' v (Nat.le_refl _) hB' (hT.slip h0 hc g.frame.fn g.frame.place hm) hk' ho' (Goes.rely atRel_trans hG ⟨d, rfl⟩)
      obtain ⟨gs', a2, b2, w2, sl2, T2, s2, q2, mk2, d2, sl3, r1, r2⟩ := r
      exact ⟨N + 1, gs', a2, b2, w2, sl2, T2, s2, q2, mk2, d2, sl3, runNT_step (hst.trans hrunT) r1, r2⟩
end
end Go.Proofs.YtnknfolnbhljfaaGreatDoor.Lift
end

section
/- The caller receives what the child offers. On whatever tape. -/
set_option linter.unusedSectionVars false
set_option linter.unusedVariables false
set_option linter.unusedSimpArgs false
namespace Go.Proofs.YtnknfolnbhljfaaGreatDoor.Lift
open Go Go.Conc Go.ConcX
open Go.ConcN (sumTo upd sumTo_upd upd_ne upd_same)
section
variable {P : Program} {D : World → World → Array Event → Prop} {Mine : Loc → Prop} {Wg C : Nat} [Shy Wg C] {Low Out End : Nat} {zs ze : Value} {sh shr : CommShape} {Sel : Value → Goroutine → Prop} {nx : Value → Value} {c p : Nat} {t₀ : Trace} {z : Value}
variable (P Mine Wg C Low Out End zs ze sh Sel nx c p t₀) in
/-- The caller has received: it stands served; the child goes on to its next value; of the world the channel alone has turned. -/
def Served (shr : CommShape) (z : Value) (gs : Array Goroutine) (a : Goroutine) (w : World) (sl : Option (Nat × Nat)) (T : Trace) (v : Value) : Prop :=
  ∃ N gs' b' d s1 r1 sl' T' s' q' mk', runNT P N (crowd gs w sl) T = (.next (crowd gs' ((w.at d).setChan Out 0 #[] false (s1 + 1) (r1 + 1) false) sl'), T') ∧ w.heap[Out]? = some (.chan 0 #[] false s1 r1 false) ∧
    Big P c gs' (a.finishComm P #[rcase Out z] shr 0 v true) b' T' q' ∧ Tr Mine Wg C c t₀ s' T' p ∧ Kid P Dq Wg Low Out End zs ze sh Sel mk' (nx v) b' ((w.at d).setChan Out 0 #[] false (s1 + 1) (r1 + 1) false) ∧
    Open Out End ((w.at d).setChan Out 0 #[] false (s1 + 1) (r1 + 1) false)
theorem heap_setChan (w : World) (c i : Nat) (cap : Nat) (buf : Array Value) (cl : Bool) (s r : Nat) (tm : Bool) : (w.setChan c cap buf cl s r tm).heap[i]? = if i = c then (if c < w.heap.size then some (.chan cap buf cl s r tm) else none) else w.heap[i]? := by
  unfold World.setChan
  simp only [Array.getElem?_setIfInBounds]
  by_cases h : c = i
  · subst h; simp
  · rw [if_neg h, if_neg (Ne.symm h)]
theorem Open.chan {w : World} (h : Open Out End w) (hne : Out ≠ End) (s r : Nat) : Open Out End (w.setChan Out 0 #[] false s r false) := by
  obtain ⟨⟨s1, r1, h1⟩, s2, r2, h2⟩ := h
  refine ⟨⟨s, r, ?_⟩, s2, r2, ?_⟩
  · rw [heap_setChan, if_pos rfl, if_pos (Array.getElem?_eq_some_iff.1 h1).1]
  · rw [heap_setChan, if_neg (Ne.symm hne)]; exact h2
/-- The four operations of a meeting. -/
theorem Tr.meets {s T : Trace} (h : Tr Mine Wg C c t₀ s T p) (hc : c ≠ 0) (o s1 r1 : Nat) (hcm : Shy.ok Wg C (.send o s1) ∧ Shy.ok Wg C (.recv o r1 0) ∧ Shy.ok Wg C (.sendDone o s1) ∧ Shy.ok Wg C (.recvDone o r1)) (f0 f1 : FuncId) (p0 p1 : String) :
    ∃ s', Tr Mine Wg C c t₀ s' (T ++ #[{ g := c, fn := f1, pos := p1, act := .send o s1 }, { g := 0, fn := f0, pos := p0, act := .recv o r1 0 }, { g := c, fn := f1, pos := p1, act := .sendDone o s1 }, { g := 0, fn := f0, pos := p0, act := .recvDone o r1 }]) p := by
  refine ⟨_, h.ops4 hc (o1 := { g := 1, fn := f1, pos := p1, act := .send o s1 }) (o2 := { g := 0, fn := f0, pos := p0, act := .recv o r1 0 }) (o3 := { g := 1, fn := f1, pos := p1, act := .sendDone o s1 }) (o4 := { g := 0, fn := f0, pos := p0, act := .recvDone o r1 }) ?_⟩
  rintro x (rfl | rfl | rfl | rfl)
  · exact ⟨.inr rfl, rfl, hcm.1, by simp⟩
  · exact ⟨.inl rfl, rfl, hcm.2.1, by simp⟩
  · exact ⟨.inr rfl, rfl, hcm.2.2.1, by simp⟩
  · exact ⟨.inl rfl, rfl, hcm.2.2.2, by simp⟩
theorem e0 (X : Trace) (i : Nat) (fn : FuncId) (pos : String) : X ++ MemOp.ofEvents i fn pos #[] = X := by simp [MemOp.ofEvents]
theorem e0' (X : Trace) (i : Nat) (fn : FuncId) (pos : String) : MemOp.ofEvents i fn pos #[] ++ X = X := by simp [MemOp.ofEvents]
/-- It waits; the child comes. -/
theorem talk_wait (hD : ∀ w w' es, D w w' es → DK Mine Wg C w w' es) (hK : KidOk P Wg Low Out End zs ze sh Sel nx) (hne : Out ≠ End) (hcm : ∀ s1 r1, Shy.ok Wg C (.send Out s1) ∧ Shy.ok Wg C (.recv Out r1 0) ∧ Shy.ok Wg C (.sendDone Out s1) ∧ Shy.ok Wg C (.recvDone Out r1)) :
    ∀ (M m : Nat) (gs : Array Goroutine) (a b : Goroutine) (w : World) (sl : Option (Nat × Nat)) (T s : Trace) (q : Nat → Nat) (v : Value), sumTo c q + m ≤ M → Big P c gs (parked a #[rcase Out z] shr) b T q → Tr Mine Wg C c t₀ s T p →
      Goes P false (RK Low Out End Wg) D (fun g _ => Sel v g) m b w → Open Out End w → Served P Mine Wg C Low Out End zs ze sh Sel nx c p t₀ shr z gs a w sl T v := by
  intro M
  induction M using Nat.strongRecOn with
  | _ M ih =>
    intro m gs a b w sl T s q v hM hB hT hG ho
    have rb : b.status = .running := hG.running (fun g _ x => hK.run _ _ x) w (fun _ _ _ _ _ => rfl)
    obtain ⟨i, d, sl', hst, hpick⟩ := big_pick hB (awake_of (.inr (.inl rfl))) (awake_of (.inl rb)) (.inr rb) w sl
    have hG' : Goes P false (RK Low Out End Wg) D (fun g _ => Sel v g) m b (w.at d) := Goes.rely (R := RK Low Out End Wg) (fun _ _ _ h1 h2 => RK.trans h1 h2) hG (rk_at w d)
    obtain ⟨⟨s1, r1, c1⟩, s2, r2, c2⟩ := ho
    have later : ∀ {gs2 : Array Goroutine} {d2 : Nat} {sl2 : Option (Nat × Nat)} {ops : Array MemOp}, stepT P (crowd gs w sl) = (.next (crowd gs2 ((w.at d).at d2) sl2), ops) →
        Served P Mine Wg C Low Out End zs ze sh Sel nx c p t₀ shr z gs2 a ((w.at d).at d2) sl2 (T ++ ops) v → Served P Mine Wg C Low Out End zs ze sh Sel nx c p t₀ shr z gs a w sl T v := by
      rintro gs2 d2 sl2 ops hstep ⟨N, gs', b', d', s1, r1, sl', T', s', q', mk', hr, h⟩
      exact ⟨N + 1, gs', b', d', s1, r1, sl', T', s', q', mk', runNT_step hstep hr, h⟩
    rcases hpick with ⟨rfl, ra⟩ | ⟨rfl, _⟩ | ⟨k, g, g', es, h0, hc, hg, hq, hm, hstp, hq'⟩
    · cases ra
    · have hc0 := big_hc0 hB
      have hi0 : (i == 0) = false := by simp [hc0]
      rcases hG'.cases with hstop | ⟨n', rfl, hstep⟩
      · have hsel := hstop _ (fun _ _ _ _ _ => rfl : RK Low Out End Wg (w.at d) (w.at d))
        have hp : partners (gs.setIfInBounds i ph) Out false = [(0, 0)] := by
          have hj : (gs.setIfInBounds i ph)[0]? = some (parked a #[rcase Out z] shr) := by rw [Array.getElem?_setIfInBounds_ne hc0]; exact hB.h0
          rw [partners_one hj (fun j g hj0 hg => by
            rcases getElem?_stand gs i j g hg with ⟨_, rfl⟩ | ⟨hji, hg'⟩
            · rfl
            · exact big_nobody hB hg' hj0 hji _ _), offersAt_parked_recv, if_pos rfl]
          rfl
        have hw := sel_send_meets (P := P) (sl := sl') (k := 0) hB.hc (w := w.at d) (w₁ := w.at d) (by rw [hi0]; exact hK.comm v b hsel (w.at d)) (show (cs2 Out End zs ze v)[0]? = some (scase Out v zs) from rfl) (by
            intro m' c' hm' hc'
            have : m' = 1 := by
              have h2 : m' < 2 := (Array.getElem?_eq_some_iff.1 hc').1
              omega
            subst this
            obtain rfl : rcase End ze = c' := by simpa [cs2] using hc'
            exact ways_recv_none c2 (big_alone hB (.inr (offersAt_parked_recv' _ _ _ _ _)) (.inl rfl))) c1 (Ne.symm hc0) hB.h0 hp
        obtain ⟨s', hT'⟩ := hT.meets (big_hc0 hB) Out s1 r1 (hcm s1 r1) a.frame.fn b.frame.fn a.frame.place b.frame.place
        obtain ⟨m2, hG2⟩ := hK.next v b hsel ((w.at d).setChan Out 0 #[] false (s1 + 1) (r1 + 1) false)
        rw [e0'] at hw
        refine ⟨1, _, _, d, s1, r1, sl', _, s', q, m2 + 1, by simp only [runNT, hst, hw]; rfl, c1, big_both hB (by simp) (by simp) ?_ ?_ ?_, hT', .inl ⟨m2, rfl, hG2⟩, Open.chan ⟨⟨s1, r1, c1⟩, s2, r2, c2⟩ hne _ _⟩
        · rw [Array.getElem?_setIfInBounds_ne hc0]
          simp [hB.size]
        · simp [hB.size]
        · intro j h1 h2
          rw [Array.getElem?_setIfInBounds_ne (by omega), Array.getElem?_setIfInBounds_ne (by omega)]
      · obtain ⟨b', w', es, hgo, hDD, hg'⟩ := hstep _ (fun _ _ _ _ _ => rfl : RK Low Out End Wg (w.at d) (w.at d))
        obtain ⟨⟨d2, rfl⟩, hes⟩ := hD _ _ _ hDD
        have hrunT := runT_crowd_go (P := P) (sl := sl') (i := i) hB.hc (by rw [hi0]; exact hgo)
        exact later (hst.trans hrunT) (ih (sumTo i q + n') (by omega) n' _ a b' _ sl' _ _ q v (Nat.le_refl _) (big_own1 hB (woken_recv_open _ _ (w := (w.at d).at d2) c1) b.frame.fn b.frame.place es) (hT.ev1 hc0 hes b.frame.fn b.frame.place) hg' ⟨⟨s1, r1, c1⟩, s2, r2, c2⟩)
    · obtain ⟨gs', q', hrunT, hsum, hB'⟩ := big_slip hB h0 hc hg hq hm hstp hq' (w := w.at d) (sl := sl') (woken_recv_open _ _ (w := w.at d) c1) (woken_run rb)
      exact later (d2 := d) (hst.trans hrunT) (ih (sumTo c q' + m) (by omega) m _ a b _ sl' _ _ q' v (Nat.le_refl _) hB' (hT.slip h0 hc g.frame.fn g.frame.place hm) hG' ⟨⟨s1, r1, c1⟩, s2, r2, c2⟩)
/-- THE CALLER, picked at its receive, receives. -/
theorem talk_recv (hD : ∀ w w' es, D w w' es → DK Mine Wg C w w' es) (hK : KidOk P Wg Low Out End zs ze sh Sel nx) (hne : Out ≠ End) (hcm : ∀ s1 r1, Shy.ok Wg C (.send Out s1) ∧ Shy.ok Wg C (.recv Out r1 0) ∧ Shy.ok Wg C (.sendDone Out s1) ∧ Shy.ok Wg C (.recvDone Out r1))
    {mk : Nat} {gs : Array Goroutine} {a b : Goroutine} {w : World} {sl sl' : Option (Nat × Nat)} {d : Nat} {T s : Trace} {q : Nat → Nat} {v : Value} (hB : Big P c gs a b T q) (hT : Tr Mine Wg C c t₀ s T p)
    (hk : Kid P D Wg Low Out End zs ze sh Sel mk v b (w.at d)) (ho : Open Out End (w.at d)) (hst : stepT P (crowd gs w sl) = runT P (crowd gs (w.at d) sl') 0) (ra : a.status = .running)
    (hcomm : ∀ w, stepG P true a w = .comm a #[rcase Out z] true shr w #[]) : Served P Mine Wg C Low Out End zs ze sh Sel nx c p t₀ shr z gs a w sl T v := by
  have hc0 := big_hc0 hB
  obtain ⟨⟨s1, r1, c1⟩, s2, r2, c2⟩ := ho
  have hlt : 0 < gs.size := by rw [hB.size]; exact Nat.succ_pos c
  rcases hk with ⟨m, rfl, hG⟩ | ⟨_, g, hsel, rfl⟩
  · have rb : b.status = .running := hG.running (fun g _ x => hK.run _ _ x) _ (fun _ _ _ _ _ => rfl)
    have hw := crowd_waits (P := P) (sl := sl') (i := 0) hB.h0 (show stepG P (0 == 0) a (w.at d) = _ from hcomm _) (by
      intro cc hcc
      obtain rfl : cc = rcase Out z := by simpa using hcc
      exact ways_recv_none c1 (big_alone hB (.inl rfl) (.inr (offersAt_of_not_blocked (by rw [rb]; simp) _ _))))
    rw [show MemOp.ofEvents 0 a.frame.fn a.frame.place #[] = #[] by simp [MemOp.ofEvents]] at hw
    have hB' : Big P c (gs.setIfInBounds 0 (parked a #[rcase Out z] shr)) (parked a #[rcase Out z] shr) b (T ++ #[]) q :=
      big_both hB (by simp) (by simp) (by simp [hlt]) (by rw [Array.getElem?_setIfInBounds_ne (Ne.symm hc0)]; exact hB.hc) (fun j hj _ => Array.getElem?_setIfInBounds_ne (by omega))
    rw [Array.append_empty] at hB'
    obtain ⟨N, gs', b', d', s1', r1', sl2, T', s', q', mk', hr, hrest⟩ := talk_wait hD hK hne hcm _ m _ a b (w.at d) sl' T s q v (Nat.le_refl _) hB' hT hG ⟨⟨s1, r1, c1⟩, s2, r2, c2⟩
    exact ⟨N + 1, gs', b', d', s1', r1', sl2, T', s', q', mk', runNT_step (hst.trans hw) (by rw [Array.append_empty]; exact hr), hrest⟩
  · have hp : partners (gs.setIfInBounds 0 ph) Out true = [(c, 0)] := by
      have hj : (gs.setIfInBounds 0 ph)[c]? = some (parked g (cs2 Out End zs ze v) sh) := by rw [Array.getElem?_setIfInBounds_ne (Ne.symm hc0)]; exact hB.hc
      rw [partners_one hj (fun j g hj0 hg => by
        rcases getElem?_stand gs 0 j g hg with ⟨_, rfl⟩ | ⟨hji, hg'⟩
        · rfl
        · exact big_nobody hB hg' hji hj0 _ _), (offers_cs2 hne).1]
      rfl
    have hw := recv_meets_sel (P := P) (sl := sl') (i := 0) (k := 0) hB.h0 (show stepG P (0 == 0) a (w.at d) = _ from hcomm _) c1 hc0 hB.hc (show (cs2 Out End zs ze v)[0]? = some (scase Out v zs) from rfl) hp
    obtain ⟨s', hT'⟩ := hT.meets hc0 Out s1 r1 (hcm s1 r1) a.frame.fn g.frame.fn a.frame.place g.frame.place
    obtain ⟨m2, hG2⟩ := hK.next v g hsel ((w.at d).setChan Out 0 #[] false (s1 + 1) (r1 + 1) false)
    rw [e0'] at hw
    refine ⟨1, _, _, d, s1, r1, sl', _, s', q, m2 + 1, by simp only [runNT, hst, hw]; rfl, c1, big_both hB (by simp) (by simp) ?_ ?_ ?_, hT', .inl ⟨m2, rfl, hG2⟩, Open.chan ⟨⟨s1, r1, c1⟩, s2, r2, c2⟩ hne _ _⟩
    · simp [hlt]
    · rw [Array.getElem?_setIfInBounds_ne (Ne.symm hc0)]
      simp [hB.size]
    · intro j h1 h2
      rw [Array.getElem?_setIfInBounds_ne (by omega), Array.getElem?_setIfInBounds_ne (by omega)]
end
end Go.Proofs.YtnknfolnbhljfaaGreatDoor.Lift
end

section
/- Behind close(end): the caller runs ahead into Wait; the child comes to its select and takes the closed case: from there the kit's ghost. -/
set_option linter.unusedSectionVars false
set_option linter.unusedVariables false
set_option linter.unusedSimpArgs false
namespace Go.Proofs.YtnknfolnbhljfaaGreatDoor.Lift
open Go Go.Conc Go.ConcX
open Go.ConcN (sumTo upd sumTo_upd upd_ne upd_same)
variable [Payload]
def Shut (Out End : Nat) (w : World) : Prop := (∃ s r, w.heap[Out]? = some (.chan 0 #[] false s r false)) ∧ ∃ s r, w.heap[End]? = some (.chan 0 #[] true s r false)
theorem Shut.of_heap {Out End : Nat} {w w' : World} (h : Shut Out End w) (e1 : w'.heap[Out]? = w.heap[Out]?) (e2 : w'.heap[End]? = w.heap[End]?) : Shut Out End w' := by
  obtain ⟨⟨s, r, h1⟩, s', r', h2⟩ := h
  exact ⟨⟨s, r, e1.trans h1⟩, s', r', e2.trans h2⟩
section
variable (P : Program) (ty : TypeId) (Mine : Loc → Prop) (Wg C : Nat) [Shy Wg C] (Low Out End : Nat) (zs ze : Value) (sh : CommShape) (Sel : Value → Goroutine → Prop) (vals : List Value) (AnchW : Goroutine → World → Prop) (Post : Value → World → Prop)
/-- The child behind the closing: on its way to its select, or let try again there. -/
def Lags (mk : Nat) (v : Value) (b : Goroutine) (w : World) : Prop :=
  (∃ m, mk = m + 1 ∧ Goes P false (RK Low Out End Wg) Dq (fun g _ => Sel v g) m b w) ∨ (mk = 0 ∧ ∃ g, Sel v g ∧ b = { parked g (cs2 Out End zs ze v) sh with status := .running })
/-- The caller on its way through Wait. -/
inductive Cal : Int → Nat → Nat × Nat → Goroutine → World → Prop
  | a {rp d0 mp : Nat} {a : Goroutine} {w : World} : PA P ty Wg C Low vals Mine AnchW Post rp d0 mp a w → Cal KK d0 (rp + 2, mp) a w
  | b {rp mp : Nat} {a : Goroutine} {w : World} : PB P ty Wg C Low vals Mine Post rp mp a w → Cal (KK + 1) 1 (rp, mp) a w
/-- The child that has seen the closing goes to its release. -/
def Finishes : Prop := ∀ v g, Sel v g → ∀ w, KCa ty Wg w ∧ Full C vals w → ∃ m, Goes P false (RCa ty Wg Low) (DCs Mine Wg C) (AtR0 P ty Wg C Low vals) m (g.finishComm P (cs2 Out End zs ze v) sh 1 ze false) w
end
section
variable {P : Program} {ty : TypeId} {Mine : Loc → Prop} {Wg C : Nat} [Shy Wg C] {Low Out End : Nat} {zs ze : Value} {sh : CommShape} {Sel : Value → Goroutine → Prop} {nx : Value → Value} {vals : List Value} {AnchW : Goroutine → World → Prop} {Post : Value → World → Prop} {c p : Nat} {t₀ : Trace}
theorem Lags.running {mk : Nat} {v : Value} {b : Goroutine} {w : World} (hK : KidOk P Wg Low Out End zs ze sh Sel nx) (h : Lags P Wg Low Out End zs ze sh Sel mk v b w) : b.status = .running := by
  rcases h with ⟨m, _, hg⟩ | ⟨_, g, _, rfl⟩
  · exact hg.running (fun g _ x => hK.run _ _ x) w (fun _ _ _ _ _ => rfl)
  · rfl
theorem Lags.rely {mk : Nat} {v : Value} {b : Goroutine} {w w₁ : World} (h : Lags P Wg Low Out End zs ze sh Sel mk v b w) (hr : RK Low Out End Wg w w₁) : Lags P Wg Low Out End zs ze sh Sel mk v b w₁ :=
  h.imp (fun ⟨m, e, hg⟩ => ⟨m, e, Goes.rely (R := RK Low Out End Wg) (fun _ _ _ h1 h2 => RK.trans h1 h2) hg hr⟩) id
theorem Cal.at {st : Int} {d0 : Nat} {μ : Nat × Nat} {a : Goroutine} {w : World} (h : Cal P ty Mine Wg C Low vals AnchW Post st d0 μ a w) (d : Nat) : Cal P ty Mine Wg C Low vals AnchW Post st d0 μ a (w.at d) := by
  cases h with
  | a h => exact .a (h.rely (RPa.at w d))
  | b h => exact .b (h.rely (RPb.at w d))
theorem Cal.woken (hAr : ∀ g w, AnchW g w → g.status = .running) {st : Int} {d0 : Nat} {μ : Nat × Nat} {a : Goroutine} {w : World} (h : Cal P ty Mine Wg C Low vals AnchW Post st d0 μ a w) (g g' : Goroutine) : ∃ μ', Cal P ty Mine Wg C Low vals AnchW Post st d0 μ' (woken P g g' w a) w := by
  cases h with
  | a h => rw [woken_run (h.running hAr)]; exact ⟨_, .a h⟩
  | b h =>
    obtain ⟨r', m', h'⟩ := h.woken (b := g) (b' := g')
    exact ⟨_, .b h'⟩
theorem Cal.quiet (hAr : ∀ g w, AnchW g w → g.status = .running) {st : Int} {d0 : Nat} {μ : Nat × Nat} {a : Goroutine} {w : World} (h : Cal P ty Mine Wg C Low vals AnchW Post st d0 μ a w) : awake a ∧ ∀ r s, offersAt a r s = [] := by
  cases h with
  | a h =>
    have := h.running hAr
    exact ⟨awake_of (.inl this), fun r s => offersAt_of_not_blocked (by rw [this]; simp) r s⟩
  | b h =>
    rcases h.status with ⟨_, e⟩ | ⟨_, e, e2⟩
    · exact ⟨awake_of (.inl e), fun r s => offersAt_of_not_blocked (by rw [e]; simp) r s⟩
    · exact ⟨awake_of (.inr (.inl e)), fun r s => by unfold offersAt; rw [e, e2]⟩
/-- A step of the caller's. -/
theorem Cal.move (hW : Wg < Low) (hC : C < Low) (hCW : C ≠ Wg) (hAn : ∀ g w, AnchW g w → ∃ m, Goes P true (RPa ty Wg C vals) (DPi Mine Wg C Low) (AtW1 P ty Wg C Low vals Mine AnchW Post) m g w)
    {st : Int} {d0 : Nat} {μ : Nat × Nat} {a b : Goroutine} {w : World} {s : Trace} (hB : Base Mine ty Wg C vals.length st 0 vals.toArray false vals.length 0 d0 0 false w s p)
    (h : Cal P ty Mine Wg C Low vals AnchW Post st d0 μ a w) (hr : a.status = .running) :
    ∃ a' w' es st' d0' μ', stepG P true a w = .go a' w' es ∧ Lt2 μ' μ ∧ Base Mine ty Wg C vals.length st' 0 vals.toArray false vals.length 0 d0' 0 false w' (s ++ MemOp.ofEvents 0 a.frame.fn a.frame.place es) p ∧ Cal P ty Mine Wg C Low vals AnchW Post st' d0' μ' a' w' ∧
      ∀ b, b < Low → b ≠ Wg → w'.heap[b]? = w.heap[b]? := by
  cases h with
  | @a rp _ mp _ _ h =>
    obtain ⟨a', w', ops, hrun, hrc, hout⟩ := PA.moveA hW hC hCW hAn (b := b) (sl := none) hB h
    rw [duo_eq_crowd] at hrun
    obtain ⟨g0, g', w2, es, hg0, hgo, hm, rfl⟩ := runTX_next hrun
    obtain rfl : g0 = a := by simpa using hg0.symm
    have em : crowd ((#[g0, b].map (Go.Conc.woken P g0 g' w2)).setIfInBounds 0 g') w2 none = duo g' (Go.Conc.woken P g0 g' w2 b) w2 none := by simp [crowd, duo]
    rw [em] at hm
    obtain ⟨rfl, _, rfl, _⟩ := duo_inj hm
    cases hout with
    | stay rp' d0' mp' hl hB' hp' => exact ⟨_, _, es, KK, d0', _, hgo, lt2_shift 2 hl, hB', .a hp', hrc.low⟩
    | reg mp' hB' hp' => exact ⟨_, _, es, KK + 1, 1, _, hgo, .left _ _ (by omega), hB', .b hp', hrc.low⟩
  | @b rp mp _ _ h =>
    obtain rfl : rp = 1 := h.status.elim (fun x => x.1) (fun x => by rw [x.2.1] at hr; cases hr)
    obtain ⟨a', w', ops, hrun, hrc, rp', mp', hl, hB', hp'⟩ := PB.move0 hW hC (b := b) (sl := none) hB h
    rw [duo_eq_crowd] at hrun
    obtain ⟨g0, g', w2, es, hg0, hgo, hm, rfl⟩ := runTX_next hrun
    obtain rfl : g0 = a := by simpa using hg0.symm
    have em : crowd ((#[g0, b].map (Go.Conc.woken P g0 g' w2)).setIfInBounds 0 g') w2 none = duo g' (Go.Conc.woken P g0 g' w2 b) w2 none := by simp [crowd, duo]
    rw [em] at hm
    obtain ⟨rfl, _, rfl, _⟩ := duo_inj hm
    exact ⟨_, _, es, KK + 1, 1, _, hgo, hl, hB', .b hp', fun b h1 _ => hrc b h1⟩
abbrev LtL : Nat × (Nat × Nat) → Nat × (Nat × Nat) → Prop := Prod.Lex (· < ·) Lt2
theorem ltL_wf : WellFounded LtL := (Prod.lex Nat.lt_wfRel (Prod.lex Nat.lt_wfRel Nat.lt_wfRel)).wf
theorem tries_self {g : Goroutine} (h : g.status = .running) (cs : Array CommCase) (w : World) : stepG P false { parked g cs sh with status := .running } w = stepG P false g w := by
  rw [stepG_tries]
  obtain ⟨a, b, s, d, o⟩ := g
  cases h
  rfl
/-- ON WHATEVER TAPE the child comes to its release's way: the kit's invariant. -/
theorem lag (hK : KidOk P Wg Low Out End zs ze sh Sel nx) (hF : Finishes P ty Mine Wg C Low Out End zs ze sh Sel vals) (hW : Wg < Low) (hC : C < Low) (hCW : C ≠ Wg) (hOut : Out < Low) (hEnd : End < Low) (hOW : Out ≠ Wg) (hEW : End ≠ Wg)
    (hcm : Shy.ok Wg C (.recvClosed End)) (hAr : ∀ g w, AnchW g w → g.status = .running) (hAn : ∀ g w, AnchW g w → ∃ m, Goes P true (RPa ty Wg C vals) (DPi Mine Wg C Low) (AtW1 P ty Wg C Low vals Mine AnchW Post) m g w) :
    ∀ (μ : Nat × (Nat × Nat)) (mk d0 : Nat) (st : Int) (gs : Array Goroutine) (a b : Goroutine) (w : World) (sl : Option (Nat × Nat)) (T s : Trace) (q : Nat → Nat) (v : Value), sumTo c q + mk = μ.1 → Big P c gs a b T q → Linked c t₀ s T →
      Base Mine ty Wg C vals.length st 0 vals.toArray false vals.length 0 d0 0 false w s p → Cal P ty Mine Wg C Low vals AnchW Post st d0 μ.2 a w → Lags P Wg Low Out End zs ze sh Sel mk v b w → Shut Out End w → Full C vals w →
      ∃ N M' T' μ', runNT P N (crowd gs w sl) T = (.next M', T') ∧ GInv P ty Wg C Low vals Mine AnchW Post c t₀ μ' M' T' := by
  intro μ
  induction μ using ltL_wf.induction with
  | _ μ ih =>
    intro mk d0 st gs a b w sl T s q v hμ hB hL hBase hcal hk ho hFull
    obtain ⟨n0, μ2⟩ := μ
    simp only at hμ hcal
    have rb := hk.running hK
    obtain ⟨qa, qo⟩ := hcal.quiet hAr
    have hc0 := big_hc0 hB
    obtain ⟨i, d, sl', hst, hpick⟩ := big_pick hB qa (awake_of (.inl rb)) (.inr rb) w sl
    have hk' := hk.rely (rk_at w d)
    have hcal' := hcal.at d
    have hBase' := hBase.at d
    have later : ∀ {m' : Machine} {ops : Array MemOp}, stepT P (crowd gs w sl) = (.next m', ops) → (∃ N M' T' μ', runNT P N m' (T ++ ops) = (.next M', T') ∧ GInv P ty Wg C Low vals Mine AnchW Post c t₀ μ' M' T') →
        ∃ N M' T' μ', runNT P N (crowd gs w sl) T = (.next M', T') ∧ GInv P ty Wg C Low vals Mine AnchW Post c t₀ μ' M' T' := by
      rintro m' ops hs ⟨N, M', T', μ', hr, hg⟩
      exact ⟨N + 1, M', T', μ', runNT_step hs hr, hg⟩
    rcases hpick with ⟨rfl, ra⟩ | ⟨rfl, _⟩ | ⟨k, g, g', es, h0, hc, hg, hq, hm, hstp, hq'⟩
    · obtain ⟨a', w', es, st', d0', μ', hgo, hlt, hBase2, hcal2, hlow⟩ := hcal'.move hW hC hCW hAn (b := b) hBase' ra
      have hrunT := runT_crowd_go (P := P) (sl := sl') (i := 0) hB.h0 (show stepG P (0 == 0) a (w.at d) = _ from hgo)
      refine later (hst.trans hrunT) (ih (n0, μ') (.right _ hlt) mk d0' st' _ a' b w' sl' _ _ q v hμ (big_own0 hB (woken_run rb) a.frame.fn a.frame.place es) (hL.events hc0 (.inl rfl) _ _ es) hBase2 hcal2 ?_ ?_ ?_)
      · exact hk'.rely fun j h1 _ _ hj => hlow j h1 hj
      · exact ho.of_heap (hlow _ hOut hOW) (hlow _ hEnd hEW)
      · exact ChanAt.of_block hFull (hlow _ hC hCW)
    · have hi0 : (i == 0) = false := by simp [hc0]
      -- the child takes the closed case
      have take : ∀ g, Sel v g → (∀ w, stepG P false b w = .comm g (cs2 Out End zs ze v) true sh w #[]) → b.frame = g.frame → ∃ N M' T' μ', runNT P N (crowd gs w sl) T = (.next M', T') ∧ GInv P ty Wg C Low vals Mine AnchW Post i t₀ μ' M' T' := by
        intro g hsel hcomm hfr
        obtain ⟨⟨s1, r1, c1⟩, s2, r2, c2⟩ := ho
        have hp : ∀ r send, partners (gs.setIfInBounds i ph) r send = [] := fun r send => big_alone hB (.inr (qo r send)) (.inl rfl)
        have hw := sel_closed (P := P) (sl := sl') (k := 1) hB.hc (w := w.at d) (w₁ := w.at d) (by rw [hi0]; exact hcomm _) (show (cs2 Out End zs ze v)[1]? = some (rcase End ze) from rfl) (by
            intro m' c' hm' hc'
            have : m' = 0 := by
              have h2 : m' < 2 := (Array.getElem?_eq_some_iff.1 hc').1
              omega
            subst this
            obtain rfl : scase Out v zs = c' := by simpa [cs2] using hc'
            exact ways_send_none c1 (by simp) (hp _ _)) c2 (hp _ _)
        rw [e0'] at hw
        have hkca : KCa ty Wg (w.at d) := by
          cases hcal' with
          | a _ => exact .inl hBase'.wg
          | b _ => exact .inr hBase'.wg
        obtain ⟨mc, hG⟩ := hF v g hsel (w.at d) ⟨hkca, hFull⟩
        have hL' := hL.boths hc0 [{ g := 1, fn := g.frame.fn, pos := g.frame.place, act := .recvClosed End }] (by simp)
        have hJT : Base Mine ty Wg C vals.length st 0 vals.toArray false vals.length 0 d0 0 false (w.at d) (s ++ #[({ g := 1, fn := g.frame.fn, pos := g.frame.place, act := .recvClosed End } : MemOp)]) p := by
          refine ⟨hBase'.wg, hBase'.ch, hBase'.jt.app (.inr rfl) (fun op hop => ?_) (fun _ => .inr (hBase'.noacq rfl)), by rw [Deaf_push, deafStep_plain (by simp), hBase'.deaf0], by rw [Deaf_push, deafStep_plain (by simp), hBase'.deaf1], fun _ => (hBase'.noacq rfl).app (fun op hop => ?_), fun e => by cases e⟩
          · obtain rfl : op = _ := by simpa using hop
            exact okOp_still rfl (by simp) hcm
          · obtain rfl : op = _ := by simpa using hop
            simp
        have hB' : Big P i (gs.setIfInBounds i (g.finishComm P (cs2 Out End zs ze v) sh 1 ze false)) a (g.finishComm P (cs2 Out End zs ze v) sh 1 ze false) (T ++ #[({ g := i, fn := g.frame.fn, pos := g.frame.place, act := .recvClosed End } : MemOp)]) q :=
          big_both hB (by simp) (by simp) (by rw [Array.getElem?_setIfInBounds_ne hc0]; exact hB.h0) (by simp [big_clt hB]) (fun j _ hj => Array.getElem?_setIfInBounds_ne (by omega))
        have hJ : ∃ μs, JInv P ty Wg C Low vals Mine AnchW Post μs (duo a (g.finishComm P (cs2 Out End zs ze v) sh 1 ze false) (w.at d) none) (s ++ #[({ g := 1, fn := g.frame.fn, pos := g.frame.place, act := .recvClosed End } : MemOp)]) := by
          cases hcal' with
          | a hp' => exact ⟨_, .a _ _ _ _ _ _ _ 0 7 mc _ _ false false vals [] (by simp) hJT hp' (.r0 hG)⟩
          | b hp' => exact ⟨_, .b _ _ _ _ _ _ 0 7 mc _ _ false false vals [] (by simp) hJT hp' (.r0 hG)⟩
        obtain ⟨μs, hJ⟩ := hJ
        exact ⟨1, _, _, (sumTo i q, μs), by simp only [runNT, hst, hw]; rfl, _, a, _, w.at d, sl', _, q, μs, rfl, hB', hJ, hL', rfl⟩
      rcases hk' with ⟨n, rfl, hg⟩ | ⟨_, g, hsel, rfl⟩
      · rcases hg.cases with hstop | ⟨n', rfl, hstep⟩
        · have hsel := hstop _ (fun _ _ _ _ _ => rfl : RK Low Out End Wg (w.at d) (w.at d))
          exact take b hsel (hK.comm v b hsel) rfl
        · obtain ⟨b', w', es, hgo, hDD, hg'⟩ := hstep _ (fun _ _ _ _ _ => rfl : RK Low Out End Wg (w.at d) (w.at d))
          obtain ⟨⟨d2, rfl⟩, hes⟩ := hDD.dk (Mine := Mine) (Wg := Wg) (C := C)
          have hrunT := runT_crowd_go (P := P) (sl := sl') (i := i) hB.hc (by rw [hi0]; exact hgo)
          obtain ⟨μ', hcal2⟩ := (hcal'.at d2).woken hAr b b'
          refine later (hst.trans hrunT) (ih (sumTo i q + (n' + 1), μ') (.left _ _ (by omega)) (n' + 1) d0 st _ _ b' ((w.at d).at d2) sl' _ _ q v rfl (big_own1 hB rfl b.frame.fn b.frame.place es) (hL.events hc0 (.inr rfl) _ _ es) ?_ hcal2 (.inl ⟨n', rfl, hg'⟩) (ho.of_heap rfl rfl) hFull)
          exact (hBase'.at d2).step1 _ _ hes (hBase'.at d2).wg (hBase'.at d2).ch
      · exact take g hsel (fun w => by rw [tries_self (hK.run _ _ hsel)]; exact hK.comm v g hsel w) rfl
    · obtain ⟨gs', q', hrunT, hsum, hB'⟩ := big_slip hB h0 hc hg hq hm hstp hq' (w := w.at d) (sl := sl') rfl (woken_run rb)
      obtain ⟨μ', hcal2⟩ := hcal'.woken hAr g g'
      exact later (hst.trans hrunT) (ih (sumTo c q' + mk, μ') (.left _ _ (by omega)) mk d0 st _ _ b _ sl' _ s q' v rfl hB' (hL.mutes (by omega) (by omega) _ _ hm) hBase' hcal2 hk' (ho.of_heap rfl rfl) hFull)
end
end Go.Proofs.YtnknfolnbhljfaaGreatDoor.Lift
end

section
/- The child of sabbath.upto: from its birth to its select, from select to select, and to its release. -/
set_option linter.unusedSectionVars false
set_option linter.unusedVariables false
set_option linter.unusedSimpArgs false
namespace Go.Proofs.YtnknfolnbhljfaaGreatDoor.Up
open Go Go.Conc Go.ConcX Go.RowKit Go.Conc.Lib Go.ConcX.Gen Go.Proofs.YtnknfolnbhljfaaGreatDoor.Lift
instance : Payload := ⟨3⟩
abbrev fK : FuncId := 57
abbrev fF : FuncId := 59
noncomputable def bodyK : Code := Tryz.f57.body.getD .skip
noncomputable def bodyF : Code := Tryz.f59.body.getD .skip
noncomputable def opsK : Array Oper := match bodyK with | .seq _ (.region _ ops _) => ops | _ => #[]
noncomputable def LF : Code := match bodyF with | .seq _ (.block _ (.loop c)) => c | _ => .skip
noncomputable def XF : Code := match LF with | .seq (.block _ x) _ => x | _ => .skip
noncomputable def r1F : Code := match LF with | .seq _ r => r | _ => .skip
noncomputable def opsS : Array Oper := match XF with | .seq _ (.seq (.region _ ops _) _) => ops | _ => #[]
noncomputable def b2F : Code := match XF with | .seq _ (.seq _ b) => b | _ => .skip
noncomputable def botK : Frame := { (default : Frame) with fn := Tryz.prog.funcs.size, defers := [], mode := .panicking [goexitEntry] }
def ptr (b : Nat) : Value := .pointer (some ⟨b, 0, none⟩)
def callK (bS bO bE Wg : Nat) : Deferred := { target := .fn (.func fK) #[ptr Wg, ptr bS, ptr bO, ptr bE], args := #[] }
theorem born_step (bS bO bE Wg : Nat) (w : World) : stepG Tryz.prog false (born Tryz.prog (callK bS bO bE Wg)) w =
    .go (G ((baseD fK).at ⟨#[ptr Wg, ptr bS, ptr bO, ptr bE, undef, undef, undef, undef], []⟩ [.code bodyK]) [botK]) w #[] := by
  simp [born, callK, stepG, unwind, callDeferred, invoke, callFunc, Tryz.func57, Tryz.f57, seen, GStep.after, G, Frame.enter, Frame.at, baseD, bodyK, botK]
/-- What the child knows of the world. -/
structure KR (bS bO bE Out End : Nat) (x : Int) (w : World) : Prop where
  s : w.cell? ⟨bS, 0, none⟩ = some (.int .i64 x)
  o : w.cell? ⟨bO, 0, none⟩ = some (.chan (some Out))
  e : w.cell? ⟨bE, 0, none⟩ = some (.chan (some End))
/-- Where all lies. -/
structure Lay (bS bO bE Out End Wg Low : Nat) : Prop where
  s : bS < Low ∧ bS ≠ Out ∧ bS ≠ End ∧ bS ≠ Wg
  o : bO < Low ∧ bO ≠ Out ∧ bO ≠ End ∧ bO ≠ Wg ∧ bO ≠ bS
  e : bE < Low ∧ bE ≠ Out ∧ bE ≠ End ∧ bE ≠ Wg ∧ bE ≠ bS
  out : Out < Low ∧ Out ≠ End ∧ Out ≠ Wg ∧ Out ≠ bS
  end_ : End < Low ∧ End ≠ Wg ∧ End ≠ bS
  wg : Wg < Low
def Mine (Low End : Nat) : Loc → Prop := fun l => (∃ a, l = .cell a ∧ Low ≤ a.block) ∨ l = .obj End
section
variable {bS bO bE Out End Wg Low : Nat} [Shy Wg bS] {x : Int} {w w₁ : World}
theorem KR.rely (hL : Lay bS bO bE Out End Wg Low) (h : KR bS bO bE Out End x w) (r : RK Low Out End Wg w w₁) : KR bS bO bE Out End x w₁ :=
  ⟨(World.cell?_of_block (r bS hL.s.1 hL.s.2.1 hL.s.2.2.1 hL.s.2.2.2)).trans h.s, (World.cell?_of_block (r bO hL.o.1 hL.o.2.1 hL.o.2.2.1 hL.o.2.2.2.1)).trans h.o, (World.cell?_of_block (r bE hL.e.1 hL.e.2.1 hL.e.2.2.1 hL.e.2.2.2.1)).trans h.e⟩
theorem dk_none {M : Loc → Prop} {w : World} {es : Array Event} (h : ∀ e ∈ es, False) : DK M Wg bS w w es := ⟨⟨w.drawn, rfl⟩, fun e he => (h e he).elim⟩
theorem termsK {M : Loc → Prop} : Terms (RK Low Out End Wg) (DK M Wg bS) := ⟨fun _ _ _ h k => RK.trans h k, fun w => ⟨⟨w.drawn, rfl⟩, by simp⟩⟩
theorem drawK {M : Loc → Prop} : LetsDraw (DK M Wg bS) := fun w => ⟨⟨_, rfl⟩, by simp⟩
theorem evK_read (hE : End ≠ Wg) (a : Addr) (h : a.block < Low) (hw : a.block ≠ Wg) (h' : a.block ≠ bS) (hk : Shy.ok Wg bS (.access ⟨.cell a, false, false⟩)) : EvQ (Mine Low End) Wg bS 1 ⟨.cell a, false, false⟩ := by
  refine ⟨fun fn pos => ⟨rfl, fun y hy => ?_, by rw [ofEvent_cell]; simp, by rw [ofEvent_cell]; exact hk⟩, by simp, by simp, by simp⟩
  simp only [ofEvent_cell, MemAct.touch?, Option.some.injEq] at hy
  subst hy
  refine ⟨.inr (.inr ⟨rfl, rfl, ?_⟩), fun hs => ?_, fun ⟨y, hy, hyb, _⟩ => ?_⟩
  · rintro (⟨y, hy, hyb⟩ | hy)
    · cases hy; omega
    · cases hy
  · rcases hs with ⟨y, hy, hyb⟩ | hs
    · cases hy; exact absurd hyb hw
    · cases hs
  · cases hy; exact absurd hyb h'
theorem evK_theirs (hne : bS ≠ Wg) : EvQ (Mine Low End) Wg bS 1 ⟨.cell ⟨bS, 0, none⟩, false, false⟩ :=
  ⟨fun fn pos => by rw [ofEvent_cell]; exact okOp_theirs rfl hne _, by simp, by simp, by simp⟩
end
theorem d0_none {w : World} {es : Array Event} (h : ∀ e ∈ es, False) : Dq w w es := ⟨⟨w.drawn, rfl⟩, h⟩
/-- The frame of the go statement's closure, inside its call. -/
noncomputable def cK (bS bO bE Out End Wg : Nat) (x : Int) : Frame := (baseD fK).at ⟨#[ptr Wg, ptr bS, ptr bO, ptr bE, .int .i64 x, .chan (some Out), .chan (some End), undef], [dcall 58 #[ptr Wg]]⟩ [.inRegion opsK [3]]
/-- The temporaries at the select: J: what elder rounds have left. -/
def TS (Out End : Nat) (n : Int) (J : Nat → Value) : Array Value :=
  #[J 0, .chan (some Out), .chan (some End), J 3, J 4, J 5, .int .i64 n, J 7, J 8, J 9, J 10, .chan (some Out), .int .i64 n, .chan (some End), J 14, J 15, J 16, J 17]
noncomputable def kF : List Item := [.code b2F, .inBlock 1, .code r1F, .inLoop LF, .inBlock 0]
noncomputable def selG (bS bO bE Out End Wg : Nat) (x n : Int) (J : Nat → Value) : Goroutine := G ((base fF).at ⟨TS Out End n J, []⟩ (.inRegion opsS [0, 1, 2, 3] :: kF)) [cK bS bO bE Out End Wg x, botK]
def Sel (bS bO bE Out End Wg : Nat) (x : Int) (v : Value) (g : Goroutine) : Prop := ∃ n J, v = .int .i64 n ∧ g = selG bS bO bE Out End Wg x n J
section
variable {bS bO bE Out End Wg Low : Nat} [Shy Wg bS] {x : Int}
set_option maxRecDepth 100000 in
set_option maxHeartbeats 2000000 in
theorem kid1 (hL : Lay bS bO bE Out End Wg Low) (hko : Shy.ok Wg bS (.access ⟨.cell ⟨bO, 0, none⟩, false, false⟩)) (hke : Shy.ok Wg bS (.access ⟨.cell ⟨bE, 0, none⟩, false, false⟩)) (w : World) (hF : KR bS bO bE Out End x w) :
    ∃ m, Goes Tryz.prog false (RK Low Out End Wg) (DK (Mine Low End) Wg bS) (fun g _ => Sel bS bO bE Out End Wg x (.int .i64 (wf x)) g) m (born Tryz.prog (callK bS bO bE Wg)) w := by
  obtain ⟨nf, hsc⟩ := from_c (main := false) (termsK (M := Mine Low End) (bS := bS) (Out := Out) (End := End) (Wg := Wg) (Low := Low)) drawK (fun w => rk_at w (w.drawn + 1))
  refine ⟨(40 + nf + 3) + 13, Goes.step rfl fun w₁ r₁ => ?_⟩
  rw [born_step]
  refine ⟨dk_none (by simp), ?_⟩
  replace hF := hF.rely hL r₁
  clear r₁
  simp only [bodyK, Tryz.f57, Option.getD_some, ptr]
  ((refine Goes.step rfl (fun _ h₁ => ?_); replace hF := (KR.rely hL) hF h₁; clear h₁); rw [stepG_seq]; simp only [goes_go]; refine ⟨by ((first | refine dk_none ?_ | refine d0_none ?_ | u_none); intro e he; simp at he), ?_⟩)
  ((refine Goes.step rfl (fun _ h₁ => ?_); replace hF := (KR.rely hL) hF h₁; clear h₁); rw [stepG_region]; simp only [goes_go, List.size_toArray, List.length_cons, List.length_nil, Nat.reduceAdd, Nat.zero_add, List.range, List.range.loop]; refine ⟨by ((first | refine dk_none ?_ | refine d0_none ?_ | u_none); intro e he; simp at he), ?_⟩)
  ((refine Goes.step rfl (fun _ h₁ => ?_); replace hF := (KR.rely hL) hF h₁; clear h₁); rw [stepG_defer rfl rfl (by k_ne) rfl]; simp only [goes_go]; refine ⟨by ((first | refine dk_none ?_ | refine d0_none ?_ | u_none); intro e he; simp at he), ?_⟩; walk_nrm)
  ((refine Goes.step rfl (fun _ h₁ => ?_); replace hF := (KR.rely hL) hF h₁; clear h₁); rw [stepG_region_end]; simp only [goes_go]; refine ⟨by ((first | refine dk_none ?_ | refine d0_none ?_ | u_none); intro e he; simp at he), ?_⟩)
  ((refine Goes.step rfl (fun _ h₁ => ?_); replace hF := (KR.rely hL) hF h₁; clear h₁); rw [stepG_region]; simp only [goes_go, List.size_toArray, List.length_cons, List.length_nil, Nat.reduceAdd, Nat.zero_add, List.range, List.range.loop]; refine ⟨by ((first | refine dk_none ?_ | refine d0_none ?_ | u_none); intro e he; simp at he), ?_⟩)
  ((refine Goes.step rfl (fun _ h₁ => ?_); replace hF := (KR.rely hL) hF h₁; clear h₁)
   refine goes_oper_k rfl rfl (by decide) (fun K hK => ?_)
   have hfs := KR.s hF
   go_simp
   refine hK _ _ ⟨⟨(⟨_, rfl⟩), fun e he => ?_⟩, ?_⟩
   · have hm := mem_listed he
     simp [go_sem, *] at hm
     try (subst hm; exact (evK_theirs hL.s.2.2.2))
   clear hK K hfs)
  ((refine Goes.step rfl (fun _ h₁ => ?_); replace hF := (KR.rely hL) hF h₁; clear h₁)
   refine goes_oper_k rfl rfl (by decide) (fun K hK => ?_)
   have hfs := KR.o hF
   go_simp
   refine hK _ _ ⟨⟨(⟨_, rfl⟩), fun e he => ?_⟩, ?_⟩
   · have hm := mem_listed he
     simp [go_sem, *] at hm
     try (subst hm; exact (evK_read hL.end_.2.1 _ hL.o.1 hL.o.2.2.2.1 hL.o.2.2.2.2 hko))
   clear hK K hfs)
  ((refine Goes.step rfl (fun _ h₁ => ?_); replace hF := (KR.rely hL) hF h₁; clear h₁)
   refine goes_oper_k rfl rfl (by decide) (fun K hK => ?_)
   have hfs := KR.e hF
   go_simp
   refine hK _ _ ⟨⟨(⟨_, rfl⟩), fun e he => ?_⟩, ?_⟩
   · have hm := mem_listed he
     simp [go_sem, *] at hm
     try (subst hm; exact (evK_read hL.end_.2.1 _ hL.e.1 hL.e.2.2.2.1 hL.e.2.2.2.2 hke))
   clear hK K hfs)
  ((refine Goes.step rfl (fun _ h₁ => ?_); replace hF := (KR.rely hL) hF h₁; clear h₁); refine goes_call rfl rfl (by k_ne) rfl Tryz.func59 (by kernel_rfl) rfl ⟨by ((first | refine dk_none ?_ | refine d0_none ?_ | u_none); intro e he; simp at he), ?_⟩; walk_nrmf Tryz.f59)
  ((refine Goes.step rfl (fun _ h₁ => ?_); replace hF := (KR.rely hL) hF h₁; clear h₁); rw [stepG_seq]; simp only [goes_go]; refine ⟨by ((first | refine dk_none ?_ | refine d0_none ?_ | u_none); intro e he; simp at he), ?_⟩)
  ((refine Goes.step rfl (fun _ h₁ => ?_); replace hF := (KR.rely hL) hF h₁; clear h₁); rw [stepG_region]; simp only [goes_go, List.size_toArray, List.length_cons, List.length_nil, Nat.reduceAdd, Nat.zero_add, List.range, List.range.loop]; refine ⟨by ((first | refine dk_none ?_ | refine d0_none ?_ | u_none); intro e he; simp at he), ?_⟩)
  ((refine Goes.step rfl (fun _ h₁ => ?_); replace hF := (KR.rely hL) hF h₁; clear h₁)
   refine goes_oper_k rfl rfl (by k_ne) (fun K hK => ?_)
   go_simp
   refine hK _ _ ⟨?_, ?_⟩
   · first | refine dk_none ?_ | refine d0_none ?_ | u_none
     intro e he
     have hm := mem_listed he
     simp [go_sem, *] at hm
   clear hK K
   try w_num)
  co_apply Goes.call (m := 40) (termsK (M := Mine Low End)) rfl rfl (by decide) rfl
  · walk_nrm
    exact hsc _ _
  intro v w' hp
  obtain ⟨he, hs⟩ := hp
  subst he
  replace hF : KR bS bO bE Out End x w' := hs.elim (fun e => e ▸ hF) (hF.rely hL)
  clear hs
  walk_nrm
  ((refine Goes.step rfl (fun _ h₁ => ?_); replace hF := (KR.rely hL) hF h₁; clear h₁)
   refine goes_oper_k rfl rfl (by k_ne) (fun K hK => ?_)
   go_simp
   refine hK _ _ ⟨?_, ?_⟩
   · first | refine dk_none ?_ | refine d0_none ?_ | u_none
     intro e he
     have hm := mem_listed he
     simp [go_sem, *] at hm
   clear hK K
   try w_num)
  ((refine Goes.step rfl (fun _ h₁ => ?_); replace hF := (KR.rely hL) hF h₁; clear h₁); rw [stepG_region_end]; simp only [goes_go]; refine ⟨by ((first | refine dk_none ?_ | refine d0_none ?_ | u_none); intro e he; simp at he), ?_⟩)
  ((refine Goes.step rfl (fun _ h₁ => ?_); replace hF := (KR.rely hL) hF h₁; clear h₁); rw [stepG_block]; simp only [goes_go]; refine ⟨by ((first | refine dk_none ?_ | refine d0_none ?_ | u_none); intro e he; simp at he), ?_⟩)
  ((refine Goes.step rfl (fun _ h₁ => ?_); replace hF := (KR.rely hL) hF h₁; clear h₁); rw [stepG_loop]; simp only [goes_go]; refine ⟨by ((first | refine dk_none ?_ | refine d0_none ?_ | u_none); intro e he; simp at he), ?_⟩)
  ((refine Goes.step rfl (fun _ h₁ => ?_); replace hF := (KR.rely hL) hF h₁; clear h₁); rw [stepG_seq]; simp only [goes_go]; refine ⟨by ((first | refine dk_none ?_ | refine d0_none ?_ | u_none); intro e he; simp at he), ?_⟩)
  ((refine Goes.step rfl (fun _ h₁ => ?_); replace hF := (KR.rely hL) hF h₁; clear h₁); rw [stepG_block]; simp only [goes_go]; refine ⟨by ((first | refine dk_none ?_ | refine d0_none ?_ | u_none); intro e he; simp at he), ?_⟩)
  ((refine Goes.step rfl (fun _ h₁ => ?_); replace hF := (KR.rely hL) hF h₁; clear h₁); rw [stepG_seq]; simp only [goes_go]; refine ⟨by ((first | refine dk_none ?_ | refine d0_none ?_ | u_none); intro e he; simp at he), ?_⟩)
  ((refine Goes.step rfl (fun _ h₁ => ?_); replace hF := (KR.rely hL) hF h₁; clear h₁); rw [stepG_seq]; simp only [goes_go]; refine ⟨by ((first | refine dk_none ?_ | refine d0_none ?_ | u_none); intro e he; simp at he), ?_⟩)
  ((refine Goes.step rfl (fun _ h₁ => ?_); replace hF := (KR.rely hL) hF h₁; clear h₁); rw [stepG_seq]; simp only [goes_go]; refine ⟨by ((first | refine dk_none ?_ | refine d0_none ?_ | u_none); intro e he; simp at he), ?_⟩)
  ((refine Goes.step rfl (fun _ h₁ => ?_); replace hF := (KR.rely hL) hF h₁; clear h₁); rw [stepG_region]; simp only [goes_go, List.size_toArray, List.length_cons, List.length_nil, Nat.reduceAdd, Nat.zero_add, List.range, List.range.loop]; refine ⟨by ((first | refine dk_none ?_ | refine d0_none ?_ | u_none); intro e he; simp at he), ?_⟩)
  ((refine Goes.step rfl (fun _ h₁ => ?_); replace hF := (KR.rely hL) hF h₁; clear h₁)
   refine goes_oper_k rfl rfl (by k_ne) (fun K hK => ?_)
   go_simp
   refine hK _ _ ⟨?_, ?_⟩
   · first | refine dk_none ?_ | refine d0_none ?_ | u_none
     intro e he
     have hm := mem_listed he
     simp [go_sem, *] at hm
   clear hK K
   try w_num)
  ((refine Goes.step rfl (fun _ h₁ => ?_); replace hF := (KR.rely hL) hF h₁; clear h₁); rw [stepG_region_end]; simp only [goes_go]; refine ⟨by ((first | refine dk_none ?_ | refine d0_none ?_ | u_none); intro e he; simp at he), ?_⟩)
  ((refine Goes.step rfl (fun _ h₁ => ?_); replace hF := (KR.rely hL) hF h₁; clear h₁); rw [stepG_region]; simp only [goes_go, List.size_toArray, List.length_cons, List.length_nil, Nat.reduceAdd, Nat.zero_add, List.range, List.range.loop]; refine ⟨by ((first | refine dk_none ?_ | refine d0_none ?_ | u_none); intro e he; simp at he), ?_⟩)
  ((refine Goes.step rfl (fun _ h₁ => ?_); replace hF := (KR.rely hL) hF h₁; clear h₁)
   refine goes_oper_k rfl rfl (by k_ne) (fun K hK => ?_)
   go_simp
   refine hK _ _ ⟨?_, ?_⟩
   · first | refine dk_none ?_ | refine d0_none ?_ | u_none
     intro e he
     have hm := mem_listed he
     simp [go_sem, *] at hm
   clear hK K
   try w_num)
  ((refine Goes.step rfl (fun _ h₁ => ?_); replace hF := (KR.rely hL) hF h₁; clear h₁); rw [stepG_region_end]; simp only [goes_go]; refine ⟨by ((first | refine dk_none ?_ | refine d0_none ?_ | u_none); intro e he; simp at he), ?_⟩)
  ((refine Goes.step rfl (fun _ h₁ => ?_); replace hF := (KR.rely hL) hF h₁; clear h₁); rw [stepG_region]; simp only [goes_go, List.size_toArray, List.length_cons, List.length_nil, Nat.reduceAdd, Nat.zero_add, List.range, List.range.loop]; refine ⟨by ((first | refine dk_none ?_ | refine d0_none ?_ | u_none); intro e he; simp at he), ?_⟩)
  ((refine Goes.step rfl (fun _ h₁ => ?_); replace hF := (KR.rely hL) hF h₁; clear h₁)
   refine goes_oper_k rfl rfl (by k_ne) (fun K hK => ?_)
   go_simp
   refine hK _ _ ⟨?_, ?_⟩
   · first | refine dk_none ?_ | refine d0_none ?_ | u_none
     intro e he
     have hm := mem_listed he
     simp [go_sem, *] at hm
   clear hK K
   try w_num)
  ((refine Goes.step rfl (fun _ h₁ => ?_); replace hF := (KR.rely hL) hF h₁; clear h₁); rw [stepG_region_end]; simp only [goes_go]; refine ⟨by ((first | refine dk_none ?_ | refine d0_none ?_ | u_none); intro e he; simp at he), ?_⟩)
  ((refine Goes.step rfl (fun _ h₁ => ?_); replace hF := (KR.rely hL) hF h₁; clear h₁); rw [stepG_seq]; simp only [goes_go]; refine ⟨by ((first | refine dk_none ?_ | refine d0_none ?_ | u_none); intro e he; simp at he), ?_⟩)
  ((refine Goes.step rfl (fun _ h₁ => ?_); replace hF := (KR.rely hL) hF h₁; clear h₁); rw [stepG_region]; simp only [goes_go, List.size_toArray, List.length_cons, List.length_nil, Nat.reduceAdd, Nat.zero_add, List.range, List.range.loop]; refine ⟨by ((first | refine dk_none ?_ | refine d0_none ?_ | u_none); intro e he; simp at he), ?_⟩)
  refine Goes.stop (fun w₂ r₂ => ⟨wf x, fun i => match i with
    | 0 => .int .i64 x | 3 => undef | 4 => undef | 5 => undef | 7 => .int .i64 x | 8 => .int .i64 (wf x) | _ => undef, rfl, ?_⟩)
  rfl
end
/-- Behind the select. -/
def T14 (Out End : Nat) (n : Int) (J : Nat → Value) (r : Value) : Array Value :=
  #[J 0, .chan (some Out), .chan (some End), J 3, J 4, J 5, .int .i64 n, J 7, J 8, J 9, J 10, .chan (some Out), .int .i64 n, .chan (some End), r, J 15, J 16, J 17]
theorem sel_comm (bS bO bE Out End Wg : Nat) (x n : Int) (J : Nat → Value) (w : World) :
    stepG Tryz.prog false (selG bS bO bE Out End Wg x n J) w = .comm (selG bS bO bE Out End Wg x n J) (cs2 Out End (.int .i64 0) (.agg #[]) (.int .i64 n)) true .select w #[] := by
  have hr : (execOp (Act.eval ⟨TS Out End n J, []⟩) (opsS.getD 0 default)).run Tryz.prog w = .ok (.comm (cs2 Out End (.int .i64 0) (.agg #[]) (.int .i64 n)) true .select) w := by
    simp only [opsS, XF, LF, bodyF, Tryz.f59, Option.getD_some, TS]
    go_simp
    rfl
  have he : (execOp (Act.eval ⟨TS Out End n J, []⟩) (opsS.getD 0 default)).events Tryz.prog w #[] = #[] := by
    simp only [opsS, XF, LF, bodyF, Tryz.f59, Option.getD_some, TS]
    simp [go_sem]
  have := stepG_comm (P := Tryz.prog) (main := false) (b := base fF) (a := ⟨TS Out End n J, []⟩) (ops := opsS) (i := 0) (rest := [1, 2, 3]) (k := kF) (cs := [cK bS bO bE Out End Wg x, botK]) (o := opsS.getD 0 default) rfl rfl (by decide) hr
  rw [listed_nil he] at this
  exact this
theorem sel_finish (bS bO bE Out End Wg : Nat) (x n : Int) (J : Nat → Value) (k : Int) (v : Value) (ok : Bool) :
    (selG bS bO bE Out End Wg x n J).finishComm Tryz.prog (cs2 Out End (.int .i64 0) (.agg #[]) (.int .i64 n)) .select k v ok =
      G ((base fF).at ⟨T14 Out End n J (.tuple #[goInt k, .bool ok, if (1 : Int) = k then v else .agg #[]]), []⟩ (.inRegion opsS [1, 2, 3] :: kF)) [cK bS bO bE Out End Wg x, botK] := by
  unfold Goroutine.finishComm selG
  simp only [G, Frame.finish_at]
  have : commResult (cs2 Out End (.int .i64 0) (.agg #[]) (.int .i64 n)) .select k v ok = .tuple #[goInt k, .bool ok, if (1 : Int) = k then v else .agg #[]] := by
    simp [commResult, cs2, scase, rcase]
  rw [this]
  rfl
section
variable {bS bO bE Out End Wg Low : Nat} [Shy Wg bS] {x : Int}
def KT (w : World) : Prop := True
theorem kt_rely {R : World → World → Prop} {w w₁ : World} (h : KT w) (r : R w w₁) : KT w₁ := trivial
omit [Shy Wg bS] in
set_option maxRecDepth 100000 in
set_option maxHeartbeats 2000000 in
theorem kid2 (n : Int) (J : Nat → Value) (w : World) : ∃ m, Goes Tryz.prog false (RK Low Out End Wg) Dq (fun g _ => Sel bS bO bE Out End Wg x (.int .i64 (IntKind.i64.wrap (n + 7))) g) m
    ((selG bS bO bE Out End Wg x n J).finishComm Tryz.prog (cs2 Out End (.int .i64 0) (.agg #[]) (.int .i64 n)) .select 0 undef false) w := by
  rw [sel_finish]
  have hF : KT w := trivial
  refine ⟨60, ?_⟩
  simp only [T14, opsS, kF, b2F, r1F, XF, LF, bodyF, Tryz.f59, Option.getD_some]
  ((refine Goes.step rfl (fun _ h₁ => ?_); replace hF := kt_rely hF h₁; clear h₁)
   refine goes_oper_k rfl rfl (by k_ne) (fun K hK => ?_)
   go_simp
   refine hK _ _ ⟨?_, ?_⟩
   · first | refine dk_none ?_ | refine d0_none ?_ | u_none
     intro e he
     have hm := mem_listed he
     simp [go_sem, *] at hm
   clear hK K
   try w_num)
  ((refine Goes.step rfl (fun _ h₁ => ?_); replace hF := kt_rely hF h₁; clear h₁)
   refine goes_oper_k rfl rfl (by k_ne) (fun K hK => ?_)
   go_simp
   refine hK _ _ ⟨?_, ?_⟩
   · first | refine dk_none ?_ | refine d0_none ?_ | u_none
     intro e he
     have hm := mem_listed he
     simp [go_sem, *] at hm
   clear hK K
   try w_num)
  ((refine Goes.step rfl (fun _ h₁ => ?_); replace hF := kt_rely hF h₁; clear h₁)
   refine goes_oper_k rfl rfl (by k_ne) (fun K hK => ?_)
   go_simp
   refine hK _ _ ⟨?_, ?_⟩
   · first | refine dk_none ?_ | refine d0_none ?_ | u_none
     intro e he
     have hm := mem_listed he
     simp [go_sem, *] at hm
   clear hK K
   try w_num)
  ((refine Goes.step rfl (fun _ h₁ => ?_); replace hF := kt_rely hF h₁; clear h₁); rw [stepG_region_end]; simp only [goes_go]; refine ⟨by ((first | refine dk_none ?_ | refine d0_none ?_ | u_none); intro e he; simp at he), ?_⟩)
  ((refine Goes.step rfl (fun _ h₁ => ?_); replace hF := kt_rely hF h₁; clear h₁); rw [stepG_block]; simp only [goes_go]; refine ⟨by ((first | refine dk_none ?_ | refine d0_none ?_ | u_none); intro e he; simp at he), ?_⟩)
  ((refine Goes.step rfl (fun _ h₁ => ?_); replace hF := kt_rely hF h₁; clear h₁); rw [stepG_cond (t := true) rfl]; simp only [goes_go, if_true, if_false, Bool.false_eq_true, ↓reduceIte]; refine ⟨by ((first | refine dk_none ?_ | refine d0_none ?_ | u_none); intro e he; simp at he), ?_⟩)
  ((refine Goes.step rfl (fun _ h₁ => ?_); replace hF := kt_rely hF h₁; clear h₁); rw [stepG_skip]; simp only [goes_go]; refine ⟨by ((first | refine dk_none ?_ | refine d0_none ?_ | u_none); intro e he; simp at he), ?_⟩)
  ((refine Goes.step rfl (fun _ h₁ => ?_); replace hF := kt_rely hF h₁; clear h₁); rw [stepG_inBlock]; simp only [goes_go]; refine ⟨by ((first | refine dk_none ?_ | refine d0_none ?_ | u_none); intro e he; simp at he), ?_⟩)
  ((refine Goes.step rfl (fun _ h₁ => ?_); replace hF := kt_rely hF h₁; clear h₁); rw [stepG_inBlock]; simp only [goes_go]; refine ⟨by ((first | refine dk_none ?_ | refine d0_none ?_ | u_none); intro e he; simp at he), ?_⟩)
  ((refine Goes.step rfl (fun _ h₁ => ?_); replace hF := kt_rely hF h₁; clear h₁); rw [stepG_region]; simp only [goes_go, List.size_toArray, List.length_cons, List.length_nil, Nat.reduceAdd, Nat.zero_add, List.range, List.range.loop]; refine ⟨by ((first | refine dk_none ?_ | refine d0_none ?_ | u_none); intro e he; simp at he), ?_⟩)
  ((refine Goes.step rfl (fun _ h₁ => ?_); replace hF := kt_rely hF h₁; clear h₁)
   refine goes_oper_k rfl rfl (by k_ne) (fun K hK => ?_)
   go_simp
   refine hK _ _ ⟨?_, ?_⟩
   · first | refine dk_none ?_ | refine d0_none ?_ | u_none
     intro e he
     have hm := mem_listed he
     simp [go_sem, *] at hm
   clear hK K
   try w_num)
  ((refine Goes.step rfl (fun _ h₁ => ?_); replace hF := kt_rely hF h₁; clear h₁)
   refine goes_oper_k rfl rfl (by k_ne) (fun K hK => ?_)
   go_simp
   refine hK _ _ ⟨?_, ?_⟩
   · first | refine dk_none ?_ | refine d0_none ?_ | u_none
     intro e he
     have hm := mem_listed he
     simp [go_sem, *] at hm
   clear hK K
   try w_num)
  ((refine Goes.step rfl (fun _ h₁ => ?_); replace hF := kt_rely hF h₁; clear h₁)
   refine goes_oper_k rfl rfl (by k_ne) (fun K hK => ?_)
   go_simp
   refine hK _ _ ⟨?_, ?_⟩
   · first | refine dk_none ?_ | refine d0_none ?_ | u_none
     intro e he
     have hm := mem_listed he
     simp [go_sem, *] at hm
   clear hK K
   try w_num)
  ((refine Goes.step rfl (fun _ h₁ => ?_); replace hF := kt_rely hF h₁; clear h₁); rw [stepG_region_end]; simp only [goes_go]; refine ⟨by ((first | refine dk_none ?_ | refine d0_none ?_ | u_none); intro e he; simp at he), ?_⟩)
  ((refine Goes.step rfl (fun _ h₁ => ?_); replace hF := kt_rely hF h₁; clear h₁); rw [stepG_inLoop]; simp only [goes_go]; refine ⟨by ((first | refine dk_none ?_ | refine d0_none ?_ | u_none); intro e he; simp at he), ?_⟩)
  ((refine Goes.step rfl (fun _ h₁ => ?_); replace hF := kt_rely hF h₁; clear h₁); rw [stepG_seq]; simp only [goes_go]; refine ⟨by ((first | refine dk_none ?_ | refine d0_none ?_ | u_none); intro e he; simp at he), ?_⟩)
  ((refine Goes.step rfl (fun _ h₁ => ?_); replace hF := kt_rely hF h₁; clear h₁); rw [stepG_block]; simp only [goes_go]; refine ⟨by ((first | refine dk_none ?_ | refine d0_none ?_ | u_none); intro e he; simp at he), ?_⟩)
  ((refine Goes.step rfl (fun _ h₁ => ?_); replace hF := kt_rely hF h₁; clear h₁); rw [stepG_seq]; simp only [goes_go]; refine ⟨by ((first | refine dk_none ?_ | refine d0_none ?_ | u_none); intro e he; simp at he), ?_⟩)
  ((refine Goes.step rfl (fun _ h₁ => ?_); replace hF := kt_rely hF h₁; clear h₁); rw [stepG_seq]; simp only [goes_go]; refine ⟨by ((first | refine dk_none ?_ | refine d0_none ?_ | u_none); intro e he; simp at he), ?_⟩)
  ((refine Goes.step rfl (fun _ h₁ => ?_); replace hF := kt_rely hF h₁; clear h₁); rw [stepG_seq]; simp only [goes_go]; refine ⟨by ((first | refine dk_none ?_ | refine d0_none ?_ | u_none); intro e he; simp at he), ?_⟩)
  ((refine Goes.step rfl (fun _ h₁ => ?_); replace hF := kt_rely hF h₁; clear h₁); rw [stepG_region]; simp only [goes_go, List.size_toArray, List.length_cons, List.length_nil, Nat.reduceAdd, Nat.zero_add, List.range, List.range.loop]; refine ⟨by ((first | refine dk_none ?_ | refine d0_none ?_ | u_none); intro e he; simp at he), ?_⟩)
  ((refine Goes.step rfl (fun _ h₁ => ?_); replace hF := kt_rely hF h₁; clear h₁)
   refine goes_oper_k rfl rfl (by k_ne) (fun K hK => ?_)
   go_simp
   refine hK _ _ ⟨?_, ?_⟩
   · first | refine dk_none ?_ | refine d0_none ?_ | u_none
     intro e he
     have hm := mem_listed he
     simp [go_sem, *] at hm
   clear hK K
   try w_num)
  ((refine Goes.step rfl (fun _ h₁ => ?_); replace hF := kt_rely hF h₁; clear h₁); rw [stepG_region_end]; simp only [goes_go]; refine ⟨by ((first | refine dk_none ?_ | refine d0_none ?_ | u_none); intro e he; simp at he), ?_⟩)
  ((refine Goes.step rfl (fun _ h₁ => ?_); replace hF := kt_rely hF h₁; clear h₁); rw [stepG_region]; simp only [goes_go, List.size_toArray, List.length_cons, List.length_nil, Nat.reduceAdd, Nat.zero_add, List.range, List.range.loop]; refine ⟨by ((first | refine dk_none ?_ | refine d0_none ?_ | u_none); intro e he; simp at he), ?_⟩)
  ((refine Goes.step rfl (fun _ h₁ => ?_); replace hF := kt_rely hF h₁; clear h₁)
   refine goes_oper_k rfl rfl (by k_ne) (fun K hK => ?_)
   go_simp
   refine hK _ _ ⟨?_, ?_⟩
   · first | refine dk_none ?_ | refine d0_none ?_ | u_none
     intro e he
     have hm := mem_listed he
     simp [go_sem, *] at hm
   clear hK K
   try w_num)
  ((refine Goes.step rfl (fun _ h₁ => ?_); replace hF := kt_rely hF h₁; clear h₁); rw [stepG_region_end]; simp only [goes_go]; refine ⟨by ((first | refine dk_none ?_ | refine d0_none ?_ | u_none); intro e he; simp at he), ?_⟩)
  ((refine Goes.step rfl (fun _ h₁ => ?_); replace hF := kt_rely hF h₁; clear h₁); rw [stepG_region]; simp only [goes_go, List.size_toArray, List.length_cons, List.length_nil, Nat.reduceAdd, Nat.zero_add, List.range, List.range.loop]; refine ⟨by ((first | refine dk_none ?_ | refine d0_none ?_ | u_none); intro e he; simp at he), ?_⟩)
  ((refine Goes.step rfl (fun _ h₁ => ?_); replace hF := kt_rely hF h₁; clear h₁)
   refine goes_oper_k rfl rfl (by k_ne) (fun K hK => ?_)
   go_simp
   refine hK _ _ ⟨?_, ?_⟩
   · first | refine dk_none ?_ | refine d0_none ?_ | u_none
     intro e he
     have hm := mem_listed he
     simp [go_sem, *] at hm
   clear hK K
   try w_num)
  ((refine Goes.step rfl (fun _ h₁ => ?_); replace hF := kt_rely hF h₁; clear h₁); rw [stepG_region_end]; simp only [goes_go]; refine ⟨by ((first | refine dk_none ?_ | refine d0_none ?_ | u_none); intro e he; simp at he), ?_⟩)
  ((refine Goes.step rfl (fun _ h₁ => ?_); replace hF := kt_rely hF h₁; clear h₁); rw [stepG_seq]; simp only [goes_go]; refine ⟨by ((first | refine dk_none ?_ | refine d0_none ?_ | u_none); intro e he; simp at he), ?_⟩)
  ((refine Goes.step rfl (fun _ h₁ => ?_); replace hF := kt_rely hF h₁; clear h₁); rw [stepG_region]; simp only [goes_go, List.size_toArray, List.length_cons, List.length_nil, Nat.reduceAdd, Nat.zero_add, List.range, List.range.loop]; refine ⟨by ((first | refine dk_none ?_ | refine d0_none ?_ | u_none); intro e he; simp at he), ?_⟩)
  refine Goes.stop (fun w₂ r₂ => ⟨_, fun i => match i with
    | 0 => J 0 | 3 => J 3 | 4 => J 4 | 5 => J 5 | 7 => J 7 | 8 => J 8 | 9 => .int .i64 n | 10 => .int .i64 (IntKind.i64.wrap (n + 7)) | 14 => .tuple #[goInt ((0 : Nat) : Int), .bool false, .agg #[]] | 15 => .int .i64 0 | 16 => .bool true | 17 => .bool false | _ => undef, rfl, ?_⟩)
  rfl
set_option maxRecDepth 100000 in
theorem quitsTail (T : Array Value) : QuitsD Tryz.prog 2 0 (G { (baseD fK).at ⟨T, []⟩ [] with mode := .returning } [botK]) := by
  refine QuitsD.ctl (g' := G botK []) rfl (fun w => ?_) ?_
  · simp [G, stepG, unwind, doReturn, results, Frame.at, baseD, botK, Tryz.func57, Tryz.f57, seen, GStep.after, goexitEntry]
  refine QuitsD.ctl (g' := { G botK [] with status := .finished }) rfl (fun w => ?_) ⟨rfl, rfl⟩
  simp [G, stepG, unwind, botK, goexitEntry, Frame.catches]
  rfl
set_option maxRecDepth 100000 in
set_option maxHeartbeats 2000000 in
theorem kid3 (hL : Lay bS bO bE Out End Wg Low) (vals : List Value) (n : Int) (J : Nat → Value) (w : World) (hF : KCa 97 Wg w ∧ Full bS vals w) :
    ∃ m, Goes Tryz.prog false (RCa 97 Wg Low) (DCs (Mine Low End) Wg bS) (AtR0 Tryz.prog 97 Wg bS Low vals) m
      ((selG bS bO bE Out End Wg x n J).finishComm Tryz.prog (cs2 Out End (.int .i64 0) (.agg #[]) (.int .i64 n)) .select 1 (.agg #[]) false) w := by
  rw [sel_finish]
  have hCW := hL.s.2.2.2
  have kr : ∀ {w w₁ : World}, (KCa 97 Wg w ∧ Full bS vals w) → RCa 97 Wg Low w w₁ → KCa 97 Wg w₁ ∧ Full bS vals w₁ := fun h r => ka_rely (L := link) hL.s.1 hCW h r
  refine ⟨60, ?_⟩
  simp only [T14, opsS, kF, b2F, r1F, XF, LF, bodyF, Tryz.f59, Option.getD_some]
  ((refine Goes.step rfl (fun _ h₁ => ?_); replace hF := kr hF h₁; clear h₁)
   refine goes_oper_k rfl rfl (by k_ne) (fun K hK => ?_)
   go_simp
   refine hK _ _ ⟨?_, ?_⟩
   · first | refine dk_none ?_ | refine d0_none ?_ | u_none
     intro e he
     have hm := mem_listed he
     simp [go_sem, *] at hm
   clear hK K
   try w_num)
  ((refine Goes.step rfl (fun _ h₁ => ?_); replace hF := kr hF h₁; clear h₁)
   refine goes_oper_k rfl rfl (by k_ne) (fun K hK => ?_)
   go_simp
   refine hK _ _ ⟨?_, ?_⟩
   · first | refine dk_none ?_ | refine d0_none ?_ | u_none
     intro e he
     have hm := mem_listed he
     simp [go_sem, *] at hm
   clear hK K
   try w_num)
  ((refine Goes.step rfl (fun _ h₁ => ?_); replace hF := kr hF h₁; clear h₁)
   refine goes_oper_k rfl rfl (by k_ne) (fun K hK => ?_)
   go_simp
   refine hK _ _ ⟨?_, ?_⟩
   · first | refine dk_none ?_ | refine d0_none ?_ | u_none
     intro e he
     have hm := mem_listed he
     simp [go_sem, *] at hm
   clear hK K
   try w_num)
  ((refine Goes.step rfl (fun _ h₁ => ?_); replace hF := kr hF h₁; clear h₁); rw [stepG_region_end]; simp only [goes_go]; refine ⟨by ((first | refine dk_none ?_ | refine d0_none ?_ | u_none); intro e he; simp at he), ?_⟩)
  ((refine Goes.step rfl (fun _ h₁ => ?_); replace hF := kr hF h₁; clear h₁); rw [stepG_block]; simp only [goes_go]; refine ⟨by ((first | refine dk_none ?_ | refine d0_none ?_ | u_none); intro e he; simp at he), ?_⟩)
  ((refine Goes.step rfl (fun _ h₁ => ?_); replace hF := kr hF h₁; clear h₁); rw [stepG_cond (t := false) rfl]; simp only [goes_go, if_true, if_false, Bool.false_eq_true, ↓reduceIte]; refine ⟨by ((first | refine dk_none ?_ | refine d0_none ?_ | u_none); intro e he; simp at he), ?_⟩)
  ((refine Goes.step rfl (fun _ h₁ => ?_); replace hF := kr hF h₁; clear h₁); rw [stepG_cond (t := true) rfl]; simp only [goes_go, if_true, if_false, Bool.false_eq_true, ↓reduceIte]; refine ⟨by ((first | refine dk_none ?_ | refine d0_none ?_ | u_none); intro e he; simp at he), ?_⟩)
  ((refine Goes.step rfl (fun _ h₁ => ?_); replace hF := kr hF h₁; clear h₁); rw [stepG_ret']; simp only [goes_go]; refine ⟨by ((first | refine dk_none ?_ | refine d0_none ?_ | u_none); intro e he; simp at he), ?_⟩)
  simp only [cK, opsK, bodyK, Tryz.f57, Option.getD_some, ptr]
  ((refine Goes.step rfl (fun _ h₁ => ?_); replace hF := kr hF h₁; clear h₁); refine goes_leave0 rfl rfl Tryz.func59 rfl ⟨by ((first | refine dk_none ?_ | refine d0_none ?_ | u_none); intro e he; simp at he), ?_⟩; walk_nrm)
  ((refine Goes.step rfl (fun _ h₁ => ?_); replace hF := kr hF h₁; clear h₁); rw [stepG_region_end]; simp only [goes_go]; refine ⟨by ((first | refine dk_none ?_ | refine d0_none ?_ | u_none); intro e he; simp at he), ?_⟩)
  ((refine Goes.step rfl (fun _ h₁ => ?_); replace hF := kr hF h₁; clear h₁); rw [stepG_end]; simp only [goes_go]; refine ⟨by ((first | refine dk_none ?_ | refine d0_none ?_ | u_none); intro e he; simp at he), ?_⟩)
  ((refine Goes.step rfl (fun _ h₁ => ?_); replace hF := kr hF h₁; clear h₁); rw [stepG_unwind_enter rfl Tryz.func58 (nm_done link) rfl]; simp only [goes_go]; refine ⟨by ((first | refine dk_none ?_ | refine d0_none ?_ | u_none); intro e he; simp at he), ?_⟩; walk_nrmf Tryz.f58)
  have hA := @doneD _ link Tryz.prog wgLib (Mine Low End) Wg bS Low _ vals hL.wg hL.s.1 hCW
  simp only [body_done, doneFn, Option.getD_some] at hA
  exact (hA rfl (quitsTail _) _ hF).mono (by omega)
def nx : Value → Value
  | .int .i64 n => .int .i64 (IntKind.i64.wrap (n + 7))
  | v => v
omit [Shy Wg bS] in
theorem kidOk : KidOk Tryz.prog Wg Low Out End (.int .i64 0) (.agg #[]) .select (Sel bS bO bE Out End Wg x) nx where
  run := by rintro v g ⟨n, J, rfl, rfl⟩; rfl
  comm := by rintro v g ⟨n, J, rfl, rfl⟩ w; exact sel_comm bS bO bE Out End Wg x n J w
  next := by rintro v g ⟨n, J, rfl, rfl⟩ w; exact kid2 n J w
theorem finishes (hL : Lay bS bO bE Out End Wg Low) (vals : List Value) : Finishes Tryz.prog 97 (Mine Low End) Wg bS Low Out End (.int .i64 0) (.agg #[]) .select (Sel bS bO bE Out End Wg x) vals := by
  rintro v g ⟨n, J, rfl, rfl⟩ w hF
  exact kid3 hL vals n J w hF
end
end Go.Proofs.YtnknfolnbhljfaaGreatDoor.Up
end

section
/- The caller's own stretches: from upto's entry to Add's call. -/
set_option linter.unusedSectionVars false
set_option linter.unusedVariables false
set_option linter.unusedSimpArgs false
namespace Go.Proofs.YtnknfolnbhljfaaGreatDoor.Up
open Go Go.Conc Go.ConcX Go.RowKit Go.Conc.Lib Go.ConcX.Gen Go.Proofs.YtnknfolnbhljfaaGreatDoor.Lift
abbrev fU : FuncId := 31
abbrev bU (k : CallKind) : Frame := { base fU with kind := k }
noncomputable def bodyU : Code := Tryz.f31.body.getD .skip
noncomputable def c3 : Code := match bodyU with | .seq _ (.seq _ (.seq _ c)) => c | _ => .skip
noncomputable def c10 : Code := match c3 with | .seq _ (.seq _ (.seq _ (.seq _ c))) => c | _ => .skip
noncomputable def LU : Code := match c3 with | .seq _ (.seq _ (.seq _ (.seq (.seq _ (.block _ (.loop c))) _))) => c | _ => .skip
def TU0 (x y : Int) (J : Nat → Value) : Array Value := #[.int .i64 x, .int .i64 y, J 2, J 3, J 4, J 5, J 6, J 7, J 8, J 9, J 10, J 11, J 12, J 13, J 14, J 15, J 16, J 17, J 18, J 19, J 20, J 21, J 22, J 23, J 24, J 25, J 26, J 27]
def TU3 (x y : Int) (bS bO bE Wg Out End : Nat) (J : Nat → Value) : Array Value := #[.int .i64 x, .int .i64 y, ptr bS, J 3, .slice none 0 0, ptr bO, ptr bE, ptr Wg, J 8, J 9, .chan (some Out), .chan (some End), J 12, J 13, J 14, J 15, J 16, J 17, J 18, J 19, J 20, J 21, J 22, J 23, J 24, J 25, J 26, J 27]
/-- Six blocks have been laid. -/
structure Begun (x : Int) (W w : World) (bS bO bE Wg Out End : Nat) : Prop where
  size : w.heap.size = W.heap.size + 6
  low : ∀ i, i < W.heap.size → w.heap[i]? = W.heap[i]?
  os : w.os = W.os
  output : w.output = W.output
  tape : w.tape = W.tape
  lay : Lay bS bO bE Out End Wg (W.heap.size + 6)
  new : W.heap.size ≤ bS ∧ W.heap.size ≤ bO ∧ W.heap.size ≤ bE ∧ W.heap.size ≤ Wg ∧ W.heap.size ≤ Out ∧ W.heap.size ≤ End ∧ bO ≠ bE
  hS : w.heap[bS]? = some (.cells #[.int .i64 x] 3 (0, 0))
  hO : w.heap[bO]? = some (.cells #[.chan (some Out)] 86 (0, 0))
  hE : w.heap[bE]? = some (.cells #[.chan (some End)] 87 (0, 0))
  hW : WgAt 97 Wg w 0 0
  hOut : w.heap[Out]? = some (.chan 0 #[] false 0 0 false)
  hEnd : w.heap[End]? = some (.chan 0 #[] false 0 0 false)
theorem ev_chan (w : World) (es : Array Event) : (Instr.makeChan 86 (.int .i64 0)).events Tryz.prog w es = es := by
  simp [Instr.makeChan, asInt, asIntOf, go_sem]
theorem ev_chan' (w : World) (es : Array Event) : (Instr.makeChan 87 (.int .i64 0)).events Tryz.prog w es = es := by
  simp [Instr.makeChan, asInt, asIntOf, go_sem]
theorem drew_at (w : World) (d : Nat) : ({ w with drawn := w.drawn + 1 } : World).at d = w.at d := rfl
theorem heap_at (w : World) (d : Nat) : (w.at d).heap = w.heap := rfl
theorem heap_al (w : World) (o : Obj) : (w.alloc o).heap = w.heap.push o := rfl
theorem heap_sc (w : World) (b f : Nat) (v : Value) : (w.setCell ⟨b, f, none⟩ v).heap = w.heap.modify b fun | .cells c e z => .cells (c.setIfInBounds f v) e z | o => o := rfl
/-- Five of them. -/
structure Five (x : Int) (W w : World) (bS bO bE Out End : Nat) : Prop where
  size : w.heap.size = W.heap.size + 5
  low : ∀ i, i < W.heap.size → w.heap[i]? = W.heap[i]?
  os : w.os = W.os
  output : w.output = W.output
  tape : w.tape = W.tape
  lt : bS < W.heap.size + 5 ∧ bO < W.heap.size + 5 ∧ bE < W.heap.size + 5 ∧ Out < W.heap.size + 5 ∧ End < W.heap.size + 5
  new : W.heap.size ≤ bS ∧ W.heap.size ≤ bO ∧ W.heap.size ≤ bE ∧ W.heap.size ≤ Out ∧ W.heap.size ≤ End
  ne : bS ≠ bO ∧ bS ≠ bE ∧ bS ≠ Out ∧ bS ≠ End ∧ bO ≠ bE ∧ bO ≠ Out ∧ bO ≠ End ∧ bE ≠ Out ∧ bE ≠ End ∧ Out ≠ End
  hS : w.heap[bS]? = some (.cells #[.int .i64 x] 3 (0, 0))
  hO : w.heap[bO]? = some (.cells #[.chan (some Out)] 86 (0, 0))
  hE : w.heap[bE]? = some (.cells #[.chan (some End)] 87 (0, 0))
  hOut : w.heap[Out]? = some (.chan 0 #[] false 0 0 false)
  hEnd : w.heap[End]? = some (.chan 0 #[] false 0 0 false)
section
variable {P : Program} {D : World → World → Array Event → Prop} {fn : FuncId} {ops : Array Oper} {Q : Exit → Act → World → Prop} {S : World → Prop} {md : Region.Mode}
theorem opC_go {i : Nat} {o : Oper} {a : Act} {w : World} {K : Act → World → Prop} (ho : ops[i]? = some o) (hw : Region.wanted o (yielded ops a.tmps) = true)
    (h : ∀ (d : Nat) (K' : Act → World → Prop), (∀ a' w', D (w.at d) w' (listed P fn a o (w.at d)) ∧ K a' w' → K' a' w') → uponK o a K' ((execOp a.eval o).run P (w.at d))) : OpC P AtRel D fn ops i K a w := by
  unfold OpC
  rw [ho]
  dsimp only
  rw [if_pos hw]
  rintro _ ⟨d, rfl⟩
  exact h d _ fun _ _ x => x
theorem anyCH_six {fuel : Nat} {listed : Array Bool} {a : Act} {w : World} (h6 : ops.size = 6) (hne : Region.ready md ops listed ≠ [])
    (h : ∀ i, i < 6 → i ∈ Region.ready md ops listed → OpC P AtRel D fn ops i (fun a' w' => S w' ∧ AnyCH P AtRel D fn md ops Q S fuel (listed.setIfInBounds i true) a' w') a w) : AnyCH P AtRel D fn md ops Q S (fuel + 1) listed a w :=
  ⟨fun e => absurd e hne, fun i hi => h i (by
    obtain ⟨_, o, ho, _⟩ := mem_ready.1 hi
    rw [← h6]
    exact (Array.getElem?_eq_some_iff.1 ho).1) hi⟩
end
section
variable {Shun : Loc → Prop} {B : Nat}
theorem termsL : Terms AtRel (DE (EvL Shun B)) := ⟨atRel_trans, fun _ _ h => by simp at h⟩
theorem drawL : LetsDraw (DE (EvL Shun B)) := fun w _ h => by simp at h
noncomputable def r1U : Code := match bodyU with | .seq _ (.seq r _) => r | _ => .skip
def TU1 (x y : Int) (bS : Nat) (J : Nat → Value) : Array Value := #[.int .i64 x, .int .i64 y, ptr bS, J 3, .slice none 0 0, J 5, J 6, J 7, J 8, J 9, J 10, J 11, J 12, J 13, J 14, J 15, J 16, J 17, J 18, J 19, J 20, J 21, J 22, J 23, J 24, J 25, J 26, J 27]
def TU2 (x y : Int) (bS bO bE Out End : Nat) (J : Nat → Value) : Array Value := #[.int .i64 x, .int .i64 y, ptr bS, J 3, .slice none 0 0, ptr bO, ptr bE, J 7, J 8, J 9, .chan (some Out), .chan (some End), J 12, J 13, J 14, J 15, J 16, J 17, J 18, J 19, J 20, J 21, J 22, J 23, J 24, J 25, J 26, J 27]
set_option maxRecDepth 100000 in
set_option maxHeartbeats 8000000 in
theorem five (x y : Int) (J : Nat → Value) (W : World) (dd : Nat) (hSh : ∀ a : Addr, W.heap.size ≤ a.block → ¬ Shun (.cell a)) (hB : W.heap.size + 6 ≤ B) :
    r1U.wpC Tryz.prog true AtRel (DE (EvL Shun B)) fU 8 (fun e a' w' => e = .normal ∧ ∃ bS bO bE Out End, a' = ⟨TU2 x y bS bO bE Out End J, []⟩ ∧ Five x W w' bS bO bE Out End) ⟨TU1 x y W.heap.size J, []⟩ ((W.alloc (.cells #[.int .i64 x] 3)).at dd) := by
  simp only [r1U, bodyU, TU1, TU2, Tryz.f31, Option.getD_some]
  co_applyP wpC_region_held (S := fun _ => True) termsL drawL (by first | kernel_rfl | rfl)
  intro w₁ hR
  obtain ⟨d1, rfl⟩ := hR
  iterate 6 (all_goals (refine anyCH_six rfl (by decide +kernel) (fun i hlt hi => ?_)
                        rcases i with _ | _ | _ | _ | _ | _ | i
                        all_goals first
                           | exact absurd hi (by decide +kernel)
                           | (exfalso; omega)
                           | (clear hi hlt
                              refine opC_go rfl rfl (fun d K hK => ?_)
                              try simp only [drew_at, at_at]
                              go_simp
                              try (unfold stored; go_simp)
                              refine hK _ _ ⟨fun e he => ?_, trivial, ?_⟩
                              · have hm := mem_listed he
                                simp [go_sem, storedEv, ev_chan, ev_chan', *] at hm
                                try (subst hm; exact evL_cell _ _ (hSh _ (by simp <;> omega)) (by simp <;> omega))
                              clear hK K
                              try walk_nrm
                              try simp only [alloc_at, setCell_at, at_at])))
  all_goals
    refine ⟨by decide +kernel, rfl, _, _, _, _, _, rfl, ?_⟩
    refine ⟨by simp only [heap_at, heap_al, heap_sc, Array.size_modify, Array.size_push], fun i hi => ?_, rfl, rfl, rfl, ⟨by omega, by omega, by omega, by omega, by omega⟩, ⟨by omega, by omega, by omega, by omega, by omega⟩, ⟨by omega, by omega, by omega, by omega, by omega, by omega, by omega, by omega, by omega, by omega⟩, ?_, ?_, ?_, ?_, ?_⟩
    · simp only [heap_at]
      repeat (first | rw [Below.heap_setCell _ _ _ _ (by simp <;> omega)] | rw [Below.heap_alloc _ _ _ (by simp; omega)] | rw [Below.heap_alloc _ _ _ hi])
    all_goals
      simp only [heap_at, heap_al, heap_sc, Array.getElem?_modify, Array.getElem?_push, Array.size_modify, Array.size_push]
      generalize W.heap.size = N
      repeat (first | rw [if_pos trivial] | rw [if_pos (by omega)] | rw [if_neg (by omega)])
      try rfl
end
end Go.Proofs.YtnknfolnbhljfaaGreatDoor.Up
end

section
/- The caller's own stretches: from upto's entry to Add's call. -/
set_option linter.unusedSectionVars false
set_option linter.unusedVariables false
set_option linter.unusedSimpArgs false
namespace Go.Proofs.YtnknfolnbhljfaaGreatDoor.Up
open Go Go.Conc Go.ConcX Go.RowKit Go.Conc.Lib Go.ConcX.Gen Go.Proofs.YtnknfolnbhljfaaGreatDoor.Lift
section
variable {Shun : Loc → Prop} {B : Nat}
set_option maxRecDepth 100000 in
set_option maxHeartbeats 8000000 in
theorem cal1 {k : CallKind} (hk : k = .normal ∨ k = .deferred) (x y : Int) (J : Nat → Value) (W : World) (cs : List Frame) (hSh : ∀ a : Addr, W.heap.size ≤ a.block → ¬ Shun (.cell a)) (hB : W.heap.size + 6 ≤ B) :
    ∃ n, Goes Tryz.prog true AtRel (DE (EvL Shun B)) (fun g w => ∃ bS bO bE Wg Out End, Begun x W w bS bO bE Wg Out End ∧ g = G ((bU k).at ⟨TU3 x y bS bO bE Wg Out End J, []⟩ [.code c3]) cs) n
      (G ((bU k).at ⟨TU0 x y J, []⟩ [.code bodyU]) cs) W := by
  have hke : (bU k).kind ≠ .early := by rcases hk with rfl | rfl <;> decide
  refine ⟨60, ?_⟩
  simp only [bodyU, TU0, Tryz.f31, Option.getD_some]
  (l_in; rw [stepG_seq]; simp only [goes_go]; refine ⟨fun e he => by simp at he, ?_⟩)
  (l_in; rw [stepG_region]; simp only [goes_go, List.size_toArray, List.length_cons, List.length_nil, Nat.reduceAdd, Nat.zero_add, List.range, List.range.loop]; refine ⟨fun e he => by simp at he, ?_⟩)
  (l_in
   refine goes_oper_k rfl rfl hke (fun K hK => ?_)
   go_simp
   refine hK _ _ ⟨fun e he => ?_, ?_⟩
   · have hm := mem_listed he
     simp [go_sem, storedEv, *] at hm
   clear hK K
   try walk_nrm)
  (l_in
   refine goes_oper_k rfl rfl hke (fun K hK => ?_)
   go_simp
   refine hK _ _ ⟨fun e he => ?_, ?_⟩
   · have hm := mem_listed he
     simp [go_sem, storedEv, *] at hm
   clear hK K
   try walk_nrm)
  (l_in; rw [stepG_region_end]; simp only [goes_go]; refine ⟨fun e he => by simp at he, ?_⟩)
  (l_in; rw [stepG_seq]; simp only [goes_go]; refine ⟨fun e he => by simp at he, ?_⟩)
  refine (wpC_goes (m := 20) (b := bU k) (five (Shun := Shun) (B := B) x y J W _ hSh hB) rfl hke ?_).mono (by omega)
  rintro e a' w' ⟨rfl, bS, bO, bE, Out, End, rfl, h5⟩
  show Goes _ _ _ _ _ _ _ _
  simp only [TU2]
  (l_in; rw [stepG_seq]; simp only [goes_go]; refine ⟨fun e he => by simp at he, ?_⟩)
  (l_in; rw [stepG_region]; simp only [goes_go, List.size_toArray, List.length_cons, List.length_nil, Nat.reduceAdd, Nat.zero_add, List.range, List.range.loop]; refine ⟨fun e he => by simp at he, ?_⟩)
  (l_in
   refine goes_oper_k rfl rfl hke (fun K hK => ?_)
   go_simp
   refine hK _ _ ⟨fun e he => ?_, ?_⟩
   · have hm := mem_listed he
     simp [go_sem, storedEv, *] at hm
   clear hK K
   try walk_nrm)
  (l_in; rw [stepG_region_end]; simp only [goes_go]; refine ⟨fun e he => by simp at he, ?_⟩)
  refine Goes.stop (fun w₂ h₂ => ?_)
  obtain ⟨d2, rfl⟩ := h₂
  obtain ⟨l1, l2, l3, l4, l5⟩ := h5.lt
  obtain ⟨n1, n2, n3, n4, n5⟩ := h5.new
  obtain ⟨e1, e2, e3, e4, e5, e6, e7, e8, e9, e10⟩ := h5.ne
  have hsz := h5.size
  have old : ∀ i, i < w'.heap.size → (w'.alloc (.cells #[.int .u64 0, .int .u32 0] 97)).heap[i]? = w'.heap[i]? := fun i hi => Below.heap_alloc _ _ _ hi
  refine ⟨bS, bO, bE, w'.heap.size, Out, End, ⟨?_, fun i hi => (old i (by omega)).trans (h5.low i hi), h5.os, h5.output, h5.tape, ?_, ⟨n1, n2, n3, by omega, n4, n5, e5⟩, (old _ (by omega)).trans h5.hS, (old _ (by omega)).trans h5.hO, (old _ (by omega)).trans h5.hE, ?_, (old _ (by omega)).trans h5.hOut, (old _ (by omega)).trans h5.hEnd⟩, rfl⟩
  · show (w'.heap.push _).size = _
    simp [hsz]
  · constructor <;> (first | omega | exact ⟨by omega, by omega, by omega, by omega⟩ | exact ⟨by omega, by omega, by omega, by omega, by omega⟩ | exact ⟨by omega, by omega, by omega⟩)
  · show (w'.heap.push _)[w'.heap.size]? = _
    simp [wgBlock]
end
end Go.Proofs.YtnknfolnbhljfaaGreatDoor.Up
end

section
/- The caller's own stretches: through Add to the go statement. -/
set_option linter.unusedSectionVars false
set_option linter.unusedVariables false
set_option linter.unusedSimpArgs false
namespace Go.Proofs.YtnknfolnbhljfaaGreatDoor.Up
open Go Go.Conc Go.ConcX Go.RowKit Go.Conc.Lib Go.ConcX.Gen Go.Proofs.YtnknfolnbhljfaaGreatDoor.Lift
noncomputable def ops4 : Array Oper := match c3 with | .seq _ (.seq (.region _ ops _) _) => ops | _ => #[]
noncomputable def c5 : Code := match c3 with | .seq _ (.seq _ c) => c | _ => .skip
/-- The temporaries behind the go statement. -/
def TU5 (x y : Int) (bS bO bE Wg Out End : Nat) (J : Nat → Value) : Array Value := #[.int .i64 x, .int .i64 y, ptr bS, J 3, .slice none 0 0, ptr bO, ptr bE, ptr Wg, J 8, J 9, .chan (some Out), .chan (some End), .tuple #[], .func (.func fK) #[] #[ptr Wg, ptr bS, ptr bO, ptr bE], J 14, J 15, J 16, J 17, J 18, J 19, J 20, J 21, J 22, J 23, J 24, J 25, J 26, J 27]
noncomputable def gGo (k : CallKind) (x y : Int) (bS bO bE Wg Out End : Nat) (J : Nat → Value) (cs : List Frame) : Goroutine := G ((bU k).at ⟨TU5 x y bS bO bE Wg Out End J, []⟩ (.inRegion ops4 [] :: [.code c5])) cs
/-- The go statement. -/
def AtGoU (k : CallKind) (x y : Int) (bS bO bE Wg Out End : Nat) (J : Nat → Value) (cs : List Frame) (W : World) (a : Goroutine) (w : World) : Prop :=
  a.status = .running ∧ ∃ d, w = (W.setCell (stA Wg) (.int .u64 KK)).at d ∧ stepG Tryz.prog true a w = .spawn (gGo k x y bS bO bE Wg Out End J cs) (born Tryz.prog (callK bS bO bE Wg)) w #[]
section
variable {Wg bS : Nat} [Shy Wg bS]
set_option maxRecDepth 100000 in
set_option maxHeartbeats 8000000 in
theorem cal2 {k : CallKind} (hk : k = .normal ∨ k = .deferred) (x y : Int) (bO bE Out End : Nat) (J : Nat → Value) (cs : List Frame) (W : World) (hW : WgAt 97 Wg W 0 0) :
    ∃ n, Goes Tryz.prog true AtRel (DE (EvS Wg bS)) (AtMkS Tryz.prog .disable fun a w => ∃ n, Goes Tryz.prog true AtRel (DE (EvS Wg bS)) (AtMkS Tryz.prog .enable fun a w => ∃ n, Goes Tryz.prog true AtRel (DE (EvS Wg bS)) (AtGoU k x y bS bO bE Wg Out End J cs W) n a w) n a w) n
      (G ((bU k).at ⟨TU3 x y bS bO bE Wg Out End J, []⟩ [.code c3]) cs) W := by
  have hke : (bU k).kind ≠ .early := by rcases hk with rfl | rfl <;> decide
  refine ⟨12 + 3, ?_⟩
  have hA := @addPos link Wg bS
  simp only [c3, bodyU, TU3, body_add, Tryz.f31, addFn, Option.getD_some, ptr] at hA ⊢
  (l_in; rw [stepG_seq]; simp only [goes_go]; refine ⟨fun e he => by simp at he, ?_⟩)
  (l_in; rw [stepG_region]; simp only [goes_go, List.size_toArray, List.length_cons, List.length_nil, Nat.reduceAdd, Nat.zero_add, List.range, List.range.loop]; refine ⟨fun e he => by simp at he, ?_⟩)
  l_in
  refine goes_call rfl rfl hke rfl Tryz.func56 (nm_add link) rfl ⟨fun e he => by simp at he, ?_⟩
  walk_nrmf Tryz.f56
  refine hA (mT := 8) wgLib _ (show WgAt 97 Wg (World.at W _) 0 0 from hW) ?_
  clear hA
  walk_nrm
  (l_in; rw [stepG_region_end]; simp only [goes_go]; refine ⟨fun e he => by simp at he, ?_⟩)
  (l_in; rw [stepG_seq]; simp only [goes_go]; refine ⟨fun e he => by simp at he, ?_⟩)
  (l_in; rw [stepG_region]; simp only [goes_go, List.size_toArray, List.length_cons, List.length_nil, Nat.reduceAdd, Nat.zero_add, List.range, List.range.loop]; refine ⟨fun e he => by simp at he, ?_⟩)
  l_in
  refine goes_oper_k rfl rfl hke (fun K hK => ?_)
  go_simp
  refine hK _ _ ⟨fun e he => ?_, ?_⟩
  · have hm := mem_listed he
    simp [go_sem, Instr.makeFunc] at hm
  clear hK K
  walk_nrm
  refine Goes.stop (fun w₁ h₁ => ?_)
  obtain ⟨d, hd⟩ := h₁
  subst hd
  simp only [alloc_at, setCell_at, at_at]
  refine ⟨rfl, d, rfl, ?_⟩
  rw [stepG_spawn (d := callK bS bO bE Wg) (w' := (W.setCell (stA Wg) (.int .u64 KK)).at d) (f := .func fK) (c := #[ptr Wg, ptr bS, ptr bO, ptr bE]) rfl rfl hke (by simp [go_sem, callK, Deferred.ofValue, ptr]) rfl]
  rw [Go.Conc.listed_nil (by simp [go_sem, Deferred.ofValue])]
  rfl
end
end Go.Proofs.YtnknfolnbhljfaaGreatDoor.Up
end

section
/- The caller's own stretches: behind the go statement to its first receive; from a receive to the loop's head. -/
set_option linter.unusedSectionVars false
set_option linter.unusedVariables false
set_option linter.unusedSimpArgs false
namespace Go.Proofs.YtnknfolnbhljfaaGreatDoor.Up
open Go Go.Conc Go.ConcX Go.RowKit Go.Conc.Lib Go.ConcX.Gen Go.Proofs.YtnknfolnbhljfaaGreatDoor.Lift
noncomputable def ops6 : Array Oper := match c5 with | .seq _ (.seq (.seq (.region _ ops _) _) _) => ops | _ => #[]
noncomputable def ops8 : Array Oper := match LU with | .seq _ (.seq _ (.region _ ops _)) => ops | _ => #[]
/-- The temporaries at the loop's head. -/
def TH (x y : Int) (bS bO bE Wg Out End : Nat) (sl : Value) (n : Int) (J : Nat → Value) : Array Value :=
  #[.int .i64 x, .int .i64 y, ptr bS, J 3, .slice none 0 0, ptr bO, ptr bE, ptr Wg, sl, .int .i64 n, .chan (some Out), .chan (some End), .tuple #[], .func (.func fK) #[] #[ptr Wg, ptr bS, ptr bO, ptr bE], J 14, J 15, J 16, J 17, J 18, J 19, J 20, J 21, J 22, J 23, J 24, J 25, J 26, J 27]
noncomputable def gHead (k : CallKind) (x y : Int) (bS bO bE Wg Out End : Nat) (cs : List Frame) (sl : Value) (n : Int) (J : Nat → Value) : Goroutine :=
  G ((bU k).at ⟨TH x y bS bO bE Wg Out End sl n J, []⟩ [.code LU, .inLoop LU, .inBlock 0, .code c10]) cs
section
variable {Wg bS Low End : Nat} [Shy Wg bS]
variable (Low) in
/-- The caller at a receive. -/
def RecvOk (k : CallKind) (x y : Int) (bS bO bE Wg Out End : Nat) [Shy Wg bS] (cs : List Frame) (sl : Value) (g : Goroutine) : Prop :=
  g.status = .running ∧ (∀ w, stepG Tryz.prog true g w = .comm g #[rcase Out (.int .i64 0)] true (.recv false) w #[]) ∧
    ∀ (n : Int) (w : World), ∃ m, Goes Tryz.prog true AtRel (DPi (Mine Low End) Wg bS Low) (fun g' w' => (∃ J, g' = gHead k x y bS bO bE Wg Out End cs sl n J) ∧ AtRel w w') m (g.finishComm Tryz.prog #[rcase Out (.int .i64 0)] (.recv false) 0 (.int .i64 n) true) w
theorem ev0_read (a : Addr) (hw : a.block ≠ Wg) (h' : a.block ≠ bS) (hk : Shy.ok Wg bS (.access ⟨.cell a, false, false⟩)) : EvQ (Mine Low End) Wg bS 0 ⟨.cell a, false, false⟩ := by
  refine ⟨fun fn pos => ⟨rfl, fun y hy => ?_, by rw [ofEvent_cell]; simp, by rw [ofEvent_cell]; exact hk⟩, by simp, by simp, by simp⟩
  simp only [ofEvent_cell, MemAct.touch?, Option.some.injEq] at hy
  subst hy
  refine ⟨.inr (.inl ⟨rfl, fun e => by cases e⟩), fun hs => ?_, fun ⟨y, hy, hyb, _⟩ => ?_⟩
  · rcases hs with ⟨y, hy, hyb⟩ | hs
    · cases hy; exact absurd hyb hw
    · cases hs
  · cases hy; exact absurd hyb h'
end
theorem cell_at (w : World) (d : Nat) (a : Addr) : (w.at d).cell? a = w.cell? a := rfl
section
variable {Wg bS Low : Nat} [Shy Wg bS]
set_option maxRecDepth 100000 in
set_option maxHeartbeats 8000000 in
theorem recv1 {k : CallKind} (hk : k = .normal ∨ k = .deferred) (x y : Int) (bO bE Out End : Nat) (cs : List Frame) (J : Nat → Value) :
    RecvOk Low k x y bS bO bE Wg Out End cs (.slice none 0 0) (G ((bU k).at ⟨#[.int .i64 x, .int .i64 y, ptr bS, J 3, .slice none 0 0, ptr bO, ptr bE, ptr Wg, .slice none 0 0, J 9, .chan (some Out), .chan (some End), .tuple #[], .func (.func fK) #[] #[ptr Wg, ptr bS, ptr bO, ptr bE], .chan (some Out), J 15, J 16, J 17, J 18, J 19, J 20, J 21, J 22, J 23, J 24, J 25, J 26, J 27], []⟩ [.inRegion ops6 [1, 2], .code (.block 0 (.loop LU)), .code c10]) cs) := by
  have hke : (bU k).kind ≠ .early := by rcases hk with rfl | rfl <;> decide
  refine ⟨rfl, fun w => ?_, fun n w => ?_⟩
  · rw [stepG_comm (w' := w) (cases := #[rcase Out (.int .i64 0)]) (blocking := true) (shape := .recv false) (o := ops6.getD 1 default) rfl rfl hke (by
      simp only [ops6, c5, c3, bodyU, Tryz.f31, Option.getD_some]
      go_simp
      rfl)]
    rw [Go.Conc.listed_nil (by
      simp only [ops6, c5, c3, bodyU, Tryz.f31, Option.getD_some]
      simp [go_sem])]
  · unfold Goroutine.finishComm
    simp only [G, Frame.finish_at, commResult]
    refine ⟨20, ?_⟩
    show Goes _ _ _ _ _ _ (G _ _) _
    simp only [ops6, c5, c3, bodyU, Tryz.f31, Option.getD_some, ptr]
    walk_nrm
    (l_in
     refine goes_oper_k rfl rfl hke (fun K hK => ?_)
     go_simp
     refine hK _ _ ⟨⟨fun _ _ => rfl, fun e he => ?_⟩, ?_⟩
     · have hm := mem_listed he
       simp [go_sem, storedEv, *] at hm
     clear hK K
     try walk_nrm)
    (l_in; rw [stepG_region_end]; simp only [goes_go]; refine ⟨⟨fun _ _ => rfl, fun e he => by simp at he⟩, ?_⟩)
    (l_in; rw [stepG_block]; simp only [goes_go]; refine ⟨⟨fun _ _ => rfl, fun e he => by simp at he⟩, ?_⟩)
    (l_in; rw [stepG_loop]; simp only [goes_go]; refine ⟨⟨fun _ _ => rfl, fun e he => by simp at he⟩, ?_⟩)
    refine Goes.stop (fun w₂ h₂ => ⟨⟨fun i => match i with | 14 => .chan (some Out) | 15 => .int .i64 n | i => J i, ?_⟩, ?_⟩)
    · rfl
    · exact atRel_trans _ _ _ ⟨_, rfl⟩ h₂
set_option maxRecDepth 100000 in
set_option maxHeartbeats 8000000 in
theorem recv2 {k : CallKind} (hk : k = .normal ∨ k = .deferred) (x y : Int) (bO bE Out End : Nat) (cs : List Frame) (sl : Value) (m : Int) (J : Nat → Value) (hJ : J 19 = .chan (some Out)) :
    RecvOk Low k x y bS bO bE Wg Out End cs sl (G ((bU k).at ⟨TH x y bS bO bE Wg Out End sl m J, []⟩ [.inRegion ops8 [1, 2], .inLoop LU, .inBlock 0, .code c10]) cs) := by
  have hke : (bU k).kind ≠ .early := by rcases hk with rfl | rfl <;> decide
  refine ⟨rfl, fun w => ?_, fun n w => ?_⟩
  · rw [stepG_comm (w' := w) (cases := #[rcase Out (.int .i64 0)]) (blocking := true) (shape := .recv false) (o := ops8.getD 1 default) rfl rfl hke (by
      simp only [ops8, LU, c3, bodyU, Tryz.f31, Option.getD_some, TH]
      go_simp
      rfl)]
    rw [Go.Conc.listed_nil (by
      simp only [ops8, LU, c3, bodyU, Tryz.f31, Option.getD_some, TH]
      simp [go_sem])]
  · unfold Goroutine.finishComm
    simp only [G, Frame.finish_at, commResult]
    refine ⟨20, ?_⟩
    show Goes _ _ _ _ _ _ (G _ _) _
    simp only [ops8, LU, c3, bodyU, Tryz.f31, Option.getD_some, ptr, TH]
    walk_nrm
    (l_in
     refine goes_oper_k rfl rfl hke (fun K hK => ?_)
     go_simp
     refine hK _ _ ⟨⟨fun _ _ => rfl, fun e he => ?_⟩, ?_⟩
     · have hm := mem_listed he
       simp [go_sem, storedEv, *] at hm
     clear hK K
     try walk_nrm)
    (l_in; rw [stepG_region_end]; simp only [goes_go]; refine ⟨⟨fun _ _ => rfl, fun e he => by simp at he⟩, ?_⟩)
    (l_in; rw [stepG_inLoop]; simp only [goes_go]; refine ⟨⟨fun _ _ => rfl, fun e he => by simp at he⟩, ?_⟩)
    refine Goes.stop (fun w₂ h₂ => ⟨⟨fun i => match i with | 19 => .chan (some Out) | 20 => .int .i64 n | i => J i, ?_⟩, ?_⟩)
    · rfl
    · exact atRel_trans _ _ _ ⟨_, rfl⟩ h₂
set_option maxRecDepth 100000 in
set_option maxHeartbeats 8000000 in
/-- From the go statement to the first receive. -/
theorem cal3 {k : CallKind} (hk : k = .normal ∨ k = .deferred) (x y : Int) {bO bE Out End : Nat} (hL : Lay bS bO bE Out End Wg Low) (hko : Shy.ok Wg bS (.access ⟨.cell ⟨bO, 0, none⟩, false, false⟩)) (cs : List Frame) (W : World) (hO : W.cell? ⟨bO, 0, none⟩ = some (.chan (some Out))) (J : Nat → Value) :
    ∃ n, Goes Tryz.prog true AtRel (DPi (Mine Low End) Wg bS Low) (fun g w => RecvOk Low k x y bS bO bE Wg Out End cs (.slice none 0 0) g ∧ AtRel W w) n (gGo k x y bS bO bE Wg Out End J cs) W := by
  have hke : (bU k).kind ≠ .early := by rcases hk with rfl | rfl <;> decide
  have hO' : ∀ d, (W.at d).cell? ⟨bO, 0, none⟩ = some (.chan (some Out)) := fun d => hO
  refine ⟨20, ?_⟩
  simp only [gGo, TU5, ops4, c5, c3, bodyU, Tryz.f31, Option.getD_some, ptr]
  (l_in; rw [stepG_region_end]; simp only [goes_go]; refine ⟨⟨fun _ _ => rfl, fun e he => by simp at he⟩, ?_⟩)
  (l_in; rw [stepG_seq]; simp only [goes_go]; refine ⟨⟨fun _ _ => rfl, fun e he => by simp at he⟩, ?_⟩)
  (l_in; rw [stepG_region]; simp only [goes_go, List.size_toArray, List.length_cons, List.length_nil, Nat.reduceAdd, Nat.zero_add, List.range, List.range.loop]; refine ⟨⟨fun _ _ => rfl, fun e he => by simp at he⟩, ?_⟩)
  (l_in
   refine goes_oper_k rfl rfl hke (fun K hK => ?_)
   go_simp
   refine hK _ _ ⟨⟨fun _ _ => rfl, fun e he => ?_⟩, ?_⟩
   · have hm := mem_listed he
     simp [go_sem, storedEv, *] at hm
   clear hK K
   try walk_nrm)
  (l_in; rw [stepG_region_end]; simp only [goes_go]; refine ⟨⟨fun _ _ => rfl, fun e he => by simp at he⟩, ?_⟩)
  (l_in; rw [stepG_seq]; simp only [goes_go]; refine ⟨⟨fun _ _ => rfl, fun e he => by simp at he⟩, ?_⟩)
  (l_in; rw [stepG_seq]; simp only [goes_go]; refine ⟨⟨fun _ _ => rfl, fun e he => by simp at he⟩, ?_⟩)
  (l_in; rw [stepG_region]; simp only [goes_go, List.size_toArray, List.length_cons, List.length_nil, Nat.reduceAdd, Nat.zero_add, List.range, List.range.loop]; refine ⟨⟨fun _ _ => rfl, fun e he => by simp at he⟩, ?_⟩)
  (l_in
   refine goes_oper_k rfl rfl hke (fun K hK => ?_)
   go_simp
   refine hK _ _ ⟨⟨fun _ _ => rfl, fun e he => ?_⟩, ?_⟩
   · have hm := mem_listed he
     simp [go_sem, storedEv, *] at hm
     try (subst hm; exact (ev0_read _ hL.o.2.2.2.1 hL.o.2.2.2.2 hko))
   clear hK K
   try walk_nrm)
  refine Goes.stop (fun w₂ h₂ => ⟨?_, ?_⟩)
  · exact recv1 hk x y bO bE Out End cs J
  · obtain ⟨d, rfl⟩ := h₂
    exact ⟨_, rfl⟩
/-- At the closing. -/
noncomputable def ops10 : Array Oper := match c10 with | .seq (.region _ ops _) _ => ops | _ => #[]
noncomputable def c11 : Code := match c10 with | .seq _ c => c | _ => .skip
noncomputable def gClose (k : CallKind) (x y : Int) (bS bO bE Wg Out End : Nat) (cs : List Frame) (sl : Value) (n : Int) (J : Nat → Value) : Goroutine :=
  G ((bU k).at ⟨TH x y bS bO bE Wg Out End sl n J, []⟩ [.inRegion ops10 [1], .code c11]) cs
set_option maxRecDepth 100000 in
set_option maxHeartbeats 8000000 in
/-- From the loop's head out of the loop. -/
theorem calOut {k : CallKind} (hk : k = .normal ∨ k = .deferred) (x y : Int) {bO bE Out End : Nat} (hL : Lay bS bO bE Out End Wg Low) (hke' : Shy.ok Wg bS (.access ⟨.cell ⟨bE, 0, none⟩, false, false⟩)) (cs : List Frame) (W : World) (hE : W.cell? ⟨bE, 0, none⟩ = some (.chan (some End)))
    (sl : Value) (n : Int) (J : Nat → Value) (hn : ¬ n ≤ y) :
    ∃ m, Goes Tryz.prog true AtRel (DPi (Mine Low End) Wg bS Low) (fun g w => (∃ J, J 25 = .chan (some End) ∧ g = gClose k x y bS bO bE Wg Out End cs sl n J) ∧ AtRel W w) m (gHead k x y bS bO bE Wg Out End cs sl n J) W := by
  have hke : (bU k).kind ≠ .early := by rcases hk with rfl | rfl <;> decide
  have hE' : ∀ d, (W.at d).cell? ⟨bE, 0, none⟩ = some (.chan (some End)) := fun d => hE
  refine ⟨30, ?_⟩
  simp only [gHead, TH, LU, c10, c3, bodyU, Tryz.f31, Option.getD_some, ptr]
  (l_in; rw [stepG_seq]; simp only [goes_go]; refine ⟨⟨fun _ _ => rfl, fun e he => by simp at he⟩, ?_⟩)
  (l_in; rw [stepG_seq]; simp only [goes_go]; refine ⟨⟨fun _ _ => rfl, fun e he => by simp at he⟩, ?_⟩)
  (l_in; rw [stepG_region]; simp only [goes_go, List.size_toArray, List.length_cons, List.length_nil, Nat.reduceAdd, Nat.zero_add, List.range, List.range.loop]; refine ⟨⟨fun _ _ => rfl, fun e he => by simp at he⟩, ?_⟩)
  (l_in
   refine goes_oper_k rfl rfl hke (fun K hK => ?_)
   go_simp
   refine hK _ _ ⟨⟨fun _ _ => rfl, fun e he => ?_⟩, ?_⟩
   · have hm := mem_listed he
     simp [go_sem, storedEv, *] at hm
   clear hK K
   try walk_nrm)
  (l_in
   refine goes_oper_k rfl rfl hke (fun K hK => ?_)
   go_simp
   refine hK _ _ ⟨⟨fun _ _ => rfl, fun e he => ?_⟩, ?_⟩
   · have hm := mem_listed he
     simp [go_sem, storedEv, *] at hm
   clear hK K
   try walk_nrm)
  (l_in
   refine goes_oper_k rfl rfl hke (fun K hK => ?_)
   go_simp
   refine hK _ _ ⟨⟨fun _ _ => rfl, fun e he => ?_⟩, ?_⟩
   · have hm := mem_listed he
     simp [go_sem, storedEv, *] at hm
   clear hK K
   try walk_nrm)
  (l_in; rw [stepG_region_end]; simp only [goes_go]; refine ⟨⟨fun _ _ => rfl, fun e he => by simp at he⟩, ?_⟩)
  l_in
  rw [stepG_cond (t := false) (by simp [Act.eval, hn])]
  simp only [goes_go, Bool.false_eq_true, ↓reduceIte]
  refine ⟨⟨fun _ _ => rfl, fun e he => by simp at he⟩, ?_⟩
  l_in
  refine goes_exit rfl ?_
  refine ⟨⟨fun _ _ => rfl, fun e he => by simp at he⟩, ?_⟩
  (l_in; rw [stepG_seq]; simp only [goes_go]; refine ⟨⟨fun _ _ => rfl, fun e he => by simp at he⟩, ?_⟩)
  (l_in; rw [stepG_region]; simp only [goes_go, List.size_toArray, List.length_cons, List.length_nil, Nat.reduceAdd, Nat.zero_add, List.range, List.range.loop]; refine ⟨⟨fun _ _ => rfl, fun e he => by simp at he⟩, ?_⟩)
  (l_in
   refine goes_oper_k rfl rfl hke (fun K hK => ?_)
   go_simp
   refine hK _ _ ⟨⟨fun _ _ => rfl, fun e he => ?_⟩, ?_⟩
   · have hm := mem_listed he
     simp [go_sem, storedEv, *] at hm
     try (subst hm; exact (ev0_read _ hL.e.2.2.2.1 hL.e.2.2.2.2 hke'))
   clear hK K
   try walk_nrm)
  refine Goes.stop (fun w₂ h₂ => ⟨⟨fun i => match i with | 16 => .int .i64 n | 17 => .int .i64 y | 18 => .bool false | 25 => .chan (some End) | i => J i, rfl, ?_⟩, ?_⟩)
  · rfl
  · obtain ⟨d, rfl⟩ := h₂
    exact ⟨_, rfl⟩
end
end Go.Proofs.YtnknfolnbhljfaaGreatDoor.Up
end

section
/- The caller's round: from the loop's head, through append, to the next receive. -/
set_option linter.unusedSectionVars false
set_option linter.unusedVariables false
set_option linter.unusedSimpArgs false
namespace Go.Proofs.YtnknfolnbhljfaaGreatDoor.Up
open Go Go.Conc Go.ConcX Go.RowKit Go.Conc.Lib Go.ConcX.Gen Go.Proofs.YtnknfolnbhljfaaGreatDoor.Lift
theorem info3 : ∃ i z, Tryz.prog.info? 3 = some i ∧ i.zero = some z ∧ i.size = 1 ∧ i.bytes = 8 ∧ z.cells.size = 1 := by
  have h : (Tryz.prog.info? 3).map (fun i => (i.zero, i.size, i.bytes)) = some (some (.int .i64 0), 1, 8) := by kernel_rfl
  cases hi : Tryz.prog.info? 3 with
  | none => rw [hi] at h; cases h
  | some i =>
    rw [hi] at h
    simp only [Option.map_some, Option.some.injEq, Prod.mk.injEq] at h
    exact ⟨i, _, rfl, h.1, h.2.1, h.2.2, rfl⟩
/-- append of one number. -/
noncomputable def app1 (sl : Value) (M : Nat) : Sem Value := Builtin.append_ #[23, 23] 23 #[sl, .slice (some ⟨M, 0, none⟩) 1 1]
section
variable {Wg bS Low : Nat} [Shy Wg bS]
theorem ev0_own {End : Nat} (hL : Wg < Low) (hS : bS < Low) {N : Nat} (hown : ∀ (a : Addr) (wr sy : Bool), Low ≤ a.block → a.block ≤ N → Shy.ok Wg bS (.access ⟨.cell a, wr, sy⟩)) {a : Addr} {ev : Event} (hl : ev.loc = .cell a) (ha : Low ≤ a.block) (hn : a.block ≤ N) : EvQ (Mine Low End) Wg bS 0 ev := by
  obtain ⟨loc, wr, sy⟩ := ev
  simp only at hl
  subst hl
  refine ⟨fun fn pos => ⟨rfl, fun y hy => ?_, by rw [ofEvent_cell]; simp, by rw [ofEvent_cell]; exact hown a wr sy ha hn⟩, by simp, by simp, by simp⟩
  simp only [ofEvent_cell, MemAct.touch?, Option.some.injEq] at hy
  subst hy
  refine ⟨.inr (.inl ⟨rfl, fun e => .inl ⟨a, rfl, ha⟩⟩), fun hs => ?_, fun ⟨y, hy, hyb, _⟩ => ?_⟩
  · rcases hs with ⟨y, hy, hyb⟩ | hs
    · cases hy; omega
    · cases hs
  · cases hy; omega
theorem ev0_noRoom {End : Nat} (hm : Shy.ok Wg bS (.mark .noRoom)) {m : Mark} (h : Neutral m) : EvQ (Mine Low End) Wg bS 0 ⟨.mark m, false, true⟩ := by
  obtain rfl : m = .noRoom := h
  exact ⟨fun fn pos => okOp_still rfl (by simp [MemAct.ofEvent]) hm, by simp, by simp, by simp⟩
set_option maxRecDepth 100000 in
set_option maxHeartbeats 8000000 in
theorem calRound {k : CallKind} (hk : k = .normal ∨ k = .deferred) (x y : Int) {bO bE Out End : Nat} (hL : Lay bS bO bE Out End Wg Low) (hko : Shy.ok Wg bS (.access ⟨.cell ⟨bO, 0, none⟩, false, false⟩))
    (cs : List Frame) (W : World) (hown : ∀ (a : Addr) (wr sy : Bool), Low ≤ a.block → a.block ≤ W.heap.size → Shy.ok Wg bS (.access ⟨.cell a, wr, sy⟩)) (hnr : Shy.ok Wg bS (.mark .noRoom)) (hO : W.cell? ⟨bO, 0, none⟩ = some (.chan (some Out))) (hLow : Low ≤ W.heap.size)
    (sl : Value) (cnt : Nat) (xs : List Value) (hsl : W.ownsRow Low 3 1 sl cnt xs) (hcnt : cnt < 1000000000) (n : Int) (J : Nat → Value) (hn : n ≤ y) :
    ∃ m, Goes Tryz.prog true AtRel (DPi (Mine Low End) Wg bS Low) (fun g w => ∃ d sl' w', (app1 sl W.heap.size).run Tryz.prog ((W.alloc (.cells #[.int .i64 n] 3)).at d) = .ok sl' w' ∧ AtRel w' w ∧ w'.ownsRow Low 3 1 sl' (cnt + 1) (xs ++ [.int .i64 n]) ∧
      ((W.alloc (.cells #[.int .i64 n] 3)).at d).grownBy w' sl.ownBlock ∧ RecvOk Low k x y bS bO bE Wg Out End cs sl' g) m (gHead k x y bS bO bE Wg Out End cs sl n J) W := by
  have hke : (bU k).kind ≠ .early := by rcases hk with rfl | rfl <;> decide
  have hO' : ∀ d, (W.at d).cell? ⟨bO, 0, none⟩ = some (.chan (some Out)) := fun d => hO
  obtain ⟨i, z, hi, hz, hsize, hby, hzs⟩ := info3
  refine ⟨40, ?_⟩
  simp only [gHead, TH, LU, c3, bodyU, Tryz.f31, Option.getD_some, ptr]
  (l_in; rw [stepG_seq]; simp only [goes_go]; refine ⟨⟨fun _ _ => rfl, fun e he => by simp at he⟩, ?_⟩)
  (l_in; rw [stepG_seq]; simp only [goes_go]; refine ⟨⟨fun _ _ => rfl, fun e he => by simp at he⟩, ?_⟩)
  (l_in; rw [stepG_region]; simp only [goes_go, List.size_toArray, List.length_cons, List.length_nil, Nat.reduceAdd, Nat.zero_add, List.range, List.range.loop]; refine ⟨⟨fun _ _ => rfl, fun e he => by simp at he⟩, ?_⟩)
  (l_in
   refine goes_oper_k rfl rfl hke (fun K hK => ?_)
   go_simp
   refine hK _ _ ⟨⟨fun _ _ => rfl, fun e he => ?_⟩, ?_⟩
   · have hm := mem_listed he
     simp [go_sem, storedEv, *] at hm
   clear hK K
   try walk_nrm)
  (l_in
   refine goes_oper_k rfl rfl hke (fun K hK => ?_)
   go_simp
   refine hK _ _ ⟨⟨fun _ _ => rfl, fun e he => ?_⟩, ?_⟩
   · have hm := mem_listed he
     simp [go_sem, storedEv, *] at hm
   clear hK K
   try walk_nrm)
  (l_in
   refine goes_oper_k rfl rfl hke (fun K hK => ?_)
   go_simp
   refine hK _ _ ⟨⟨fun _ _ => rfl, fun e he => ?_⟩, ?_⟩
   · have hm := mem_listed he
     simp [go_sem, storedEv, *] at hm
   clear hK K
   try walk_nrm)
  (l_in; rw [stepG_region_end]; simp only [goes_go]; refine ⟨⟨fun _ _ => rfl, fun e he => by simp at he⟩, ?_⟩)
  l_in
  rw [stepG_cond (t := true) (by simp [Act.eval, hn])]
  simp only [goes_go, ↓reduceIte]
  refine ⟨⟨fun _ _ => rfl, fun e he => by simp at he⟩, ?_⟩
  (l_in; rw [stepG_skip]; simp only [goes_go]; refine ⟨⟨fun _ _ => rfl, fun e he => by simp at he⟩, ?_⟩)
  (l_in; rw [stepG_seq]; simp only [goes_go]; refine ⟨⟨fun _ _ => rfl, fun e he => by simp at he⟩, ?_⟩)
  (l_in; rw [stepG_block]; simp only [goes_go]; refine ⟨⟨fun _ _ => rfl, fun e he => by simp at he⟩, ?_⟩)
  (l_in; rw [stepG_region]; simp only [goes_go, List.size_toArray, List.length_cons, List.length_nil, Nat.reduceAdd, Nat.zero_add, List.range, List.range.loop]; refine ⟨⟨fun _ _ => rfl, fun e he => by simp at he⟩, ?_⟩)
  (l_in
   refine goes_oper_k rfl rfl hke (fun K hK => ?_)
   go_simp
   refine hK _ _ ⟨⟨fun _ _ => rfl, fun e he => ?_⟩, ?_⟩
   · have hm := mem_listed he
     simp [go_sem, storedEv, *] at hm
   clear hK K
   try walk_nrm)
  (l_in
   refine goes_oper_k rfl rfl hke (fun K hK => ?_)
   go_simp
   refine hK _ _ ⟨⟨fun _ _ => rfl, fun e he => ?_⟩, ?_⟩
   · have hm := mem_listed he
     simp [go_sem, storedEv, *] at hm
   clear hK K
   try walk_nrm)
  -- the row of one number
  l_in
  refine goes_oper_k rfl rfl hke (fun K hK => ?_)
  go_simp
  refine hK _ _ ⟨⟨fun j hj => Below.heap_alloc _ _ _ (show j < W.heap.size by omega), fun e he => ?_⟩, ?_⟩
  · have hm := mem_listed he
    simp [go_sem, storedEv, *] at hm
  clear hK K
  try walk_nrm
  try simp only [alloc_at, at_at]
  -- append
  refine Goes.step rfl (fun w₁ h₁ => ?_)
  obtain ⟨d, rfl⟩ := h₁
  try simp only [at_at]
  have hM : Low ≤ W.heap.size := hLow
  have hown1 : ((W.alloc (.cells #[.int .i64 n] 3)).at d).ownsRow Low 3 1 sl cnt xs := by
    refine ⟨hsl.1, hsl.2.imp id ?_⟩
    rintro ⟨g, cap, cur, e1, e2, e3, e4⟩
    exact ⟨g, cap, cur, e1, e2, (Below.heap_alloc _ _ _ (Array.getElem?_eq_some_iff.1 e3).1).trans e3, e4⟩
  have hnew : ∀ (j : Nat) (u : Value), ([.int .i64 n] : List Value)[j]? = some u → ((W.alloc (.cells #[.int .i64 n] 3)).at d).cell? ((⟨W.heap.size, 0, none⟩ : Addr).add j) = some u := by
    intro j u hj
    obtain rfl : j = 0 := by
      have := (List.getElem?_eq_some_iff.1 hj).1
      simpa using this
    have : u = .int .i64 n := by simpa using hj.symm
    subst this
    show (W.alloc (.cells #[.int .i64 n] 3)).cell? ⟨W.heap.size, 0, none⟩ = _
    rw [World.cell?_alloc_new]
    rfl
  have hml : maxLen = 9223372036854775807 ∨ 2000000000 ≤ maxLen := .inr (by simp [maxLen])
  have hl63 : cnt + 1 ≤ maxLen := by
    have : 2000000000 ≤ maxLen := by decide
    omega
  obtain ⟨v', w', hr, hrow, hgrow, _⟩ := run_append_own (P := Tryz.prog) (w := (W.alloc (.cells #[.int .i64 n] 3)).at d) (ty := 23) Low 23 3 i z 1 8 Tryz.underlying23 hi hz hsize hby hzs (by decide) sl cnt xs hown1 ⟨W.heap.size, 0, none⟩ 1 1 [.int .i64 n] rfl hnew (by simp; rfl)
    hl63 (by omega) (by show Low ≤ (W.heap.push _).size; simp; omega)
  have hev := events_append_where (P := Tryz.prog) ((W.alloc (.cells #[.int .i64 n] 3)).at d) Low 23 23 3 i z 1 8 Tryz.underlying23 hi hz hsize hby sl cnt xs hown1 ⟨W.heap.size, 0, none⟩ 1 1 [.int .i64 n] rfl hnew (by simp; rfl) hl63 (by omega)
  have hob : ∀ b, b < Low → some b ≠ sl.ownBlock := fun b hb e => by have := (hown1.lt b e.symm).1; omega
  have hlow : ∀ b, b < Low → w'.heap[b]? = W.heap[b]? := fun b hb => (hgrow.block b (by show b < (W.heap.push _).size; simp; omega) (hob b hb)).trans (Below.heap_alloc W _ b (by omega))
  refine goes_oper_k rfl rfl hke (fun K hK => ?_)
  refine uponK_append (v := sl) (xv := .slice (some ⟨W.heap.size, 0, none⟩) 1 1) _ _ 23 rfl rfl rfl hr (hK _ _ ⟨⟨fun b hb => (hlow b hb).trans (Below.heap_alloc W _ b (by omega)).symm, fun e he => ?_⟩, ?_⟩)
  · have hm := mem_listed he
    rw [events_append_op (v := sl) (xv := .slice (some ⟨W.heap.size, 0, none⟩) 1 1) _ _ 23 rfl rfl rfl] at hm
    rcases hev e hm with ⟨ad, h1, h2⟩ | ⟨m, rfl, hmm⟩
    · have hb : Low ≤ ad.block ∧ ad.block ≤ W.heap.size := by
        rcases h2 with ⟨_, h2⟩ | h2
        · rw [h2]; exact ⟨hLow, Nat.le_refl _⟩
        · obtain ⟨h3, h4⟩ := hown1.lt _ h2.symm
          have h5 : ad.block < (W.heap.push (.cells #[.int .i64 n] 3)).size := h4
          rw [Array.size_push] at h5
          exact ⟨h3, by omega⟩
      exact ev0_own hL.wg hL.s.1 hown h1 hb.1 hb.2
    · exact ev0_noRoom hnr hmm
  clear hK K
  have hO2 : ∀ d, (w'.at d).cell? ⟨bO, 0, none⟩ = some (.chan (some Out)) := fun d => (World.cell?_of_block (hlow bO hL.o.1)).trans hO
  walk_nrm
  (l_in
   refine goes_oper_k rfl rfl hke (fun K hK => ?_)
   go_simp
   refine hK _ _ ⟨⟨fun _ _ => rfl, fun e he => ?_⟩, ?_⟩
   · have hm := mem_listed he
     simp [go_sem, storedEv, *] at hm
   clear hK K
   try walk_nrm)
  (l_in; rw [stepG_region_end]; simp only [goes_go]; refine ⟨⟨fun _ _ => rfl, fun e he => by simp at he⟩, ?_⟩)
  (l_in; rw [stepG_inBlock]; simp only [goes_go]; refine ⟨⟨fun _ _ => rfl, fun e he => by simp at he⟩, ?_⟩)
  (l_in; rw [stepG_region]; simp only [goes_go, List.size_toArray, List.length_cons, List.length_nil, Nat.reduceAdd, Nat.zero_add, List.range, List.range.loop]; refine ⟨⟨fun _ _ => rfl, fun e he => by simp at he⟩, ?_⟩)
  (l_in
   refine goes_oper_k rfl rfl hke (fun K hK => ?_)
   go_simp
   refine hK _ _ ⟨⟨fun _ _ => rfl, fun e he => ?_⟩, ?_⟩
   · have hm := mem_listed he
     simp [go_sem, storedEv, *] at hm
     try (subst hm; exact (ev0_read _ hL.o.2.2.2.1 hL.o.2.2.2.2 hko))
   clear hK K
   try walk_nrm)
  refine Goes.stop (fun w₂ h₂ => ⟨d, v', w', hr, ?_, hrow, hgrow, ?_⟩)
  · exact atRel_trans _ _ _ ⟨_, rfl⟩ h₂
  · exact recv2 hk x y bO bE Out End cs v' n (fun i => match i with
      | 16 => .int .i64 n | 17 => .int .i64 y | 18 => .bool true | 19 => .chan (some Out) | 21 => sl | 22 => .int .i64 n | 23 => .slice (some ⟨W.heap.size, 0, none⟩) 1 1 | 24 => v' | i => J i) rfl
end
end Go.Proofs.YtnknfolnbhljfaaGreatDoor.Up
end

section
/- The caller's own stretches: the closing, and Wait. -/
set_option linter.unusedSectionVars false
set_option linter.unusedVariables false
set_option linter.unusedSimpArgs false
namespace Go.Proofs.YtnknfolnbhljfaaGreatDoor.Up
open Go Go.Conc Go.ConcX Go.RowKit Go.Conc.Lib Go.ConcX.Gen Go.Proofs.YtnknfolnbhljfaaGreatDoor.Lift
noncomputable def ops11 : Array Oper := match c11 with | .seq (.region _ ops _) _ => ops | _ => #[]
noncomputable def c12 : Code := match c11 with | .seq _ c => c | _ => .skip
theorem loudU : (Tryz.prog.funcs[fU]?).any (·.norace) = false := by kernel_rfl
/-- Behind the closing. -/
noncomputable def gShut (k : CallKind) (x y : Int) (bS bO bE Wg Out End : Nat) (cs : List Frame) (sl : Value) (n : Int) (J : Nat → Value) : Goroutine :=
  G ((bU k).at ⟨TH x y bS bO bE Wg Out End sl n J, []⟩ [.inRegion ops10 [], .code c11]) cs
/-- Behind Wait. -/
noncomputable def gBack (k : CallKind) (x y : Int) (bS bO bE Wg Out End : Nat) (cs : List Frame) (sl : Value) (n : Int) (J : Nat → Value) : Goroutine :=
  G ((bU k).at ((⟨TH x y bS bO bE Wg Out End sl n J, []⟩ : Act).put ((ops11[0]?).bind (·.dst)) (.tuple #[])) [.inRegion ops11 [], .code c12]) cs
section
variable {k : CallKind} {x y : Int} {bS bO bE Wg Out End : Nat} {cs : List Frame} {sl : Value} {n : Int} {J : Nat → Value}
set_option maxRecDepth 100000 in
theorem close_step (hk : k = .normal ∨ k = .deferred) (hJ : J 25 = .chan (some End)) {w : World} {s r : Nat} (hc : w.heap[End]? = some (.chan 0 #[] false s r false)) :
    stepG Tryz.prog true (gClose k x y bS bO bE Wg Out End cs sl n J) w = .go (gShut k x y bS bO bE Wg Out End cs sl n J) (w.setChan End 0 #[] true s r false) (closeEvents End) ∧ mayWake Tryz.prog (gClose k x y bS bO bE Wg Out End cs sl n J) = true := by
  have hke : (bU k).kind ≠ .early := by rcases hk with rfl | rfl <;> decide
  constructor
  · have := stepG_close (P := Tryz.prog) (main := true) (b := bU k) (a := ⟨TH x y bS bO bE Wg Out End sl n J, []⟩) (kk := [.code c11]) (cs := cs) (w := w) (ops := ops10) (i := 1) (rest := []) (o := ops10.getD 1 default) (x := .tmp 25) (ats := #[87]) rfl rfl hke rfl (c := End) hJ hc loudU
    exact this
  · rfl
end
section
variable {Wg bS Low : Nat} [Shy Wg bS]
set_option maxRecDepth 100000 in
set_option maxHeartbeats 4000000 in
/-- From behind the closing into Wait. -/
theorem calWait {k : CallKind} (hk : k = .normal ∨ k = .deferred) (x y : Int) (bO bE Out End : Nat) (cs : List Frame) (sl : Value) (n : Int) (J : Nat → Value) (vals : List Value) (Wc : World) (w : World) (hF : Aside2 bS Wg Wc w ∧ KPa 97 Wg bS vals w) :
    Goes Tryz.prog true (RPa 97 Wg bS vals) (DPi (Mine Low End) Wg bS Low) (AtKd Tryz.prog 97 Wg bS Low vals (Mine Low End) (AnchW7 link (Aside2 bS Wg Wc) Wg bS vals ((bU k).at ⟨TH x y bS bO bE Wg Out End sl n J, []⟩ (.inRegion ops11 (0 :: []) :: [.code c12])) cs)) 7
      (gShut k x y bS bO bE Wg Out End cs sl n J) w := by
  have hke : (bU k).kind ≠ .early := by rcases hk with rfl | rfl <;> decide
  have fj2 : ∀ w w', Aside2 bS Wg w w' → Aside2 bS Wg Wc w → Aside2 bS Wg Wc w' := fun _ _ h1 h2 => h2.trans h1
  have hA := waitStart (L := link) (P := Tryz.prog) wgLib (Mine := Mine Low End) (Wg := Wg) (C := bS) (Low := Low) (vals := vals) (F := Aside2 bS Wg Wc) (b₀ := bU k) (a₀ := ⟨TH x y bS bO bE Wg Out End sl n J, []⟩) (ops₀ := ops11) (i₀ := 0) (rest₀ := []) (k₀ := [.code c12]) (cs := cs) fj2
  simp only [gShut, TH, ops11, c12, ops10, c11, c10, c3, bodyU, body_wait, Tryz.f31, waitFn, Option.getD_some, ptr] at hA ⊢
  u_c stepG_region_end (fa_rely (L := link) fj2) hF
  u_c stepG_seq (fa_rely (L := link) fj2) hF
  u_reg (fa_rely (L := link) fj2) hF
  u_in (fa_rely (L := link) fj2) hF
  refine goes_call rfl rfl hke rfl Tryz.func60 (nm_wait link) rfl ⟨by u_nil, ?_⟩
  walk_nrmf Tryz.f60
  exact hA _ hF
theorem calAnch {k : CallKind} (x y : Int) (bO bE Out End : Nat) (cs : List Frame) (sl : Value) (n : Int) (J : Nat → Value) (vals : List Value) (Wc : World) (hCW : bS ≠ Wg) (Post : Value → World → Prop)
    (hstop : ∀ w, Aside2 bS Wg Wc w → WgAt 97 Wg w 0 0 → Full bS vals w → Shy.stop Wg bS (gBack k x y bS bO bE Wg Out End cs sl n J) w) (g : Goroutine) (w : World)
    (h : AnchW7 link (Aside2 bS Wg Wc) Wg bS vals ((bU k).at ⟨TH x y bS bO bE Wg Out End sl n J, []⟩ (.inRegion ops11 (0 :: []) :: [.code c12])) cs g w) :
    ∃ m, Goes Tryz.prog true (RPa 97 Wg bS vals) (DPi (Mine Low End) Wg bS Low) (AtW1 Tryz.prog 97 Wg bS Low vals (Mine Low End) (AnchW7 link (Aside2 bS Wg Wc) Wg bS vals ((bU k).at ⟨TH x y bS bO bE Wg Out End sl n J, []⟩ (.inRegion ops11 (0 :: []) :: [.code c12])) cs) Post) m g w :=
  waitRound (mT := 0) wgLib hCW (fun _ _ h1 h2 => h2.trans h1) (fun w h1 h2 h3 => Goes.stop fun w₁ h₁ => ⟨rfl, by
    obtain ⟨d, rfl⟩ := h₁
    exact hstop _ (h1.trans ⟨rfl, rfl, rfl, rfl, fun _ _ _ => rfl⟩) h2 h3⟩) g w h
end
end Go.Proofs.YtnknfolnbhljfaaGreatDoor.Up
end

section
/- The shadow's stub of sabbath.upto: its code, and its steps. -/
set_option linter.unusedSectionVars false
set_option linter.unusedVariables false
set_option linter.unusedSimpArgs false
namespace Go.Proofs.YtnknfolnbhljfaaGreatDoor.Up
open Go Go.Conc Go.RowKit Go.Conc.Lib Go.Proofs.YtnknfolnbhljfaaGreatDoor.Lift
def op_ (d : Tmp) (o : Op) (t : TypeId) : Oper := { dst := some d, op := o, type := t, pos := "", after := #[], guard := none }
def i64 (n : Int) : Operand := .const (.int .i64 n)
def sG : Array Oper := #[op_ 28 (.move (.const (.bool true))) 4, { op_ 2 (.binOp .lss 3 (.const (.bool true)) (.const (.bool true)) 3) 4 with guard := some (0, true) }, op_ 2 (.binOp .lss 3 (.tmp 0) (i64 (-1073741824)) 3) 4, op_ 3 (.binOp .gtr 3 (.tmp 0) (i64 1073741824) 3) 4, op_ 5 (.binOp .gtr 3 (.tmp 1) (i64 1073741824) 3) 4]
def it_ : Oper := op_ 10 (.range 9 (.const (.string .empty))) 0
def sH : Array Oper := #[it_, it_, it_, it_, it_, it_]
def sV : Array Oper := #[op_ 11 (.binOp .sub 3 (i64 6) (.tmp 0) 3) 3, op_ 12 (.binOp .add 3 (.tmp 11) (i64 1073741830) 3) 3, op_ 13 (.binOp .rem 3 (.tmp 12) (i64 7) 3) 3, op_ 9 (.binOp .add 3 (.tmp 0) (.tmp 13) 3) 3, op_ 8 (.move (.const (.slice none 0 0))) 23]
def sC : Array Oper := #[op_ 18 (.binOp .leq 3 (.tmp 9) (.tmp 1) 3) 4]
def sA : Array Oper := #[op_ 23 (.buildSlice 23 1 #[(0, .tmp 9)]) 23, op_ 24 (.call { callee := .builtin .append, args := #[.tmp 8, .tmp 23], argTypes := #[23, 23] }) 23, op_ 8 (.move (.tmp 24)) 23, op_ 10 (.binOp .add 3 (.tmp 9) (i64 7) 3) 3, op_ 9 (.move (.tmp 10)) 3]
def sR : Array Oper := #[op_ 4 (.move (.tmp 8)) 23]
def no : Code := .refuse "out of the shadow's bounds"
def LS : Code := .seq (.region 3 sC false) (.seq (.cond (.tmp 18) .skip (.exit 0)) (.region 4 sA false))
def tailS : Code := .seq (.region 5 sR false) .ret
def bodyS : Code := .seq (.region 0 sG false) (.seq (.cond (.tmp 2) no .skip) (.seq (.cond (.tmp 3) no .skip) (.seq (.cond (.tmp 5) no .skip) (.seq (.region 1 sH false) (.seq (.region 2 sV false) (.seq (.block 0 (.loop LS)) tailS))))))
noncomputable def stubF : Func := { Tryz.f31 with body := some bodyS }
section
variable {V : Env} {Done : Goroutine → World → Prop}
theorem fin_next {P : Program} {g g1 : Goroutine} {w w1 : World} {τ : Tape} {es : Array Event} (h : Fin P Done g w) (nd : ¬ Done g w) (hs : stepG P true g (on w τ 0) = .go g1 w1 es) : Fin P Done g1 w1 := by
  cases h with
  | stop hd => exact absurd hd nd
  | step G W E hgo hov hfin =>
    have := hgo τ
    rw [hs] at this
    cases this
    exact hfin τ
/-- From the true machine M, T it comes to the mate of a shadow state behind (g, w). -/
def Concl (V : Env) (Done : Goroutine → World → Prop) (g : Goroutine) (w : World) (M : Machine) (T : Trace) : Prop :=
  Fin V.sh Done g w → ∃ N gs' w2' sl' t' q' g1' w1', runNT V.re N M T = (.next (crowd gs' w2' sl'), t') ∧ Desc V.sh Done g w g1' w1' ∧ Along V g1' w1' gs' w2' t' q'
theorem Concl.step {g g1 : Goroutine} {w w1 : World} {τ : Tape} {es : Array Event} {M : Machine} {T : Trace} (nd : ¬ Done g w) (hs : stepG V.sh true g (on w τ 0) = .go g1 w1 es) (h : Concl V Done g1 w1 M T) : Concl V Done g w M T := by
  intro hF
  obtain ⟨N, gs', w2', sl', t', q', g1', w1', h1, h2, h3⟩ := h (fin_next hF nd hs)
  exact ⟨N, gs', w2', sl', t', q', g1', w1', h1, .step nd hs h2, h3⟩
theorem Concl.run {g : Goroutine} {w : World} {M M' : Machine} {T T' : Trace} {N : Nat} (hr : runNT V.re N M T = (.next M', T')) (h : Concl V Done g w M' T') : Concl V Done g w M T := by
  intro hF
  obtain ⟨K, gs', w2', sl', t', q', g1', w1', h1, h2, h3⟩ := h hF
  exact ⟨N + K, gs', w2', sl', t', q', g1', w1', ConcX.runNT_trans hr h1, h2, h3⟩
theorem on_on (w : World) (τ τ' : Tape) (d d' : Nat) : on (on w τ d) τ' d' = on w τ' d' := rfl
def T0 : Tape := fun _ _ => 0
end
section
variable {V : Env} {Done : Goroutine → World → Prop}
theorem Concl.oper {b : Frame} {a : Act} {k : List Item} {cs : List Frame} {w : World} {ops : Array Oper} {i : Nat} {rest : List Nat} {o : Oper} {M : Machine} {T : Trace} (τ : Tape)
    (nd : ¬ Done (G (b.at a (.inRegion ops (i :: rest) :: k)) cs) w) (ho : ops[i]? = some o) (hw : Region.wanted o (yielded ops a.tmps) = true) (hk : b.kind ≠ .early)
    (h : ∀ K : Result Next → Prop, (∀ v w', Concl V Done (G (b.at (a.put o.dst v) (.inRegion ops rest :: k)) cs) w' M T → K (.ok (.value v) w')) → K ((execOp a.eval o).run V.sh (on w τ 0))) :
    Concl V Done (G (b.at a (.inRegion ops (i :: rest) :: k)) cs) w M T := by
  obtain ⟨v, w', e, hc⟩ := h (fun r => ∃ v w', r = .ok (.value v) w' ∧ Concl V Done (G (b.at (a.put o.dst v) (.inRegion ops rest :: k)) cs) w' M T) fun v w' hc => ⟨v, w', rfl, hc⟩
  exact Concl.step nd (stepG_value ho hw hk e) hc
end
/-- The stub's frames. -/
def gS (k : CallKind) (T : Array Value) (todo : List Item) (cs : List Frame) : Goroutine := G ((bU k).at ⟨T, []⟩ todo) cs
theorem run_append_op {P : Program} {a : Act} {w w' : World} {d : Tmp} {t ty : TypeId} {s x : Operand} {sv xv v : Value} (hs : a.eval s = sv) (hx : a.eval x = xv) (hr : (Builtin.append_ #[t, t] ty #[sv, xv]).run P w = .ok v w') :
    (execOp a.eval (op_ d (.call { callee := .builtin .append, args := #[s, x], argTypes := #[t, t] }) ty)).run P w = .ok (.value v) w' := by
  unfold execOp
  simp only [op_, resolve, invoke, builtin, Sem.run_bind, Sem.run_pure, Result.andThen_ok, List.map_toArray, List.map_cons, List.map_nil, hs, hx, hr]
section
variable {V : Env} {Done : Goroutine → World → Prop}
/-- The temporaries at the stub's loop. -/
def TL (x y : Int) (sl : Value) (n : Int) (J : Nat → Value) : Array Value := #[.int .i64 x, .int .i64 y, J 2, J 3, J 4, J 5, J 6, J 7, sl, .int .i64 n, J 10, J 11, J 12, J 13, J 14, J 15, J 16, J 17, J 18, J 19, J 20, J 21, J 22, J 23, J 24, J 25, J 26, J 27]
noncomputable def gLoop (k : CallKind) (x y : Int) (sl : Value) (n : Int) (J : Nat → Value) (cs : List Frame) : Goroutine := gS k (TL x y sl n J) [.code LS, .inLoop LS, .inBlock 0, .code tailS] cs
set_option maxRecDepth 100000 in
set_option maxHeartbeats 4000000 in
/-- Out of the loop, to the return. -/
theorem stubOut (hnd : ∀ g w, g.frame.fn = fU → ¬ Done g w) {k : CallKind} (hk : k = .normal ∨ k = .deferred) {x y n : Int} (sl : Value) (J : Nat → Value) (hn : ¬ n ≤ y) (cs : List Frame) (w : World) (M : Machine) (T : Trace)
    (h : ∀ J' : Nat → Value, Concl V Done (G { (bU k).at ⟨#[.int .i64 x, .int .i64 y, J' 2, J' 3, sl, J' 5, J' 6, J' 7, sl, .int .i64 n, J' 10, J' 11, J' 12, J' 13, J' 14, J' 15, J' 16, J' 17, J' 18, J' 19, J' 20, J' 21, J' 22, J' 23, J' 24, J' 25, J' 26, J' 27], []⟩ [.code .ret] with mode := .returning } cs) (on w T0 0) M T) :
    Concl V Done (gLoop k x y sl n J cs) w M T := by
  have hke : (bU k).kind ≠ .early := by rcases hk with rfl | rfl <;> decide
  simp only [gLoop, gS, TL, LS, tailS]
  (refine Concl.step (τ := T0) (hnd _ _ rfl) stepG_seq ?_)
  (refine Concl.step (τ := T0) (hnd _ _ rfl) stepG_region ?_; simp only [sG, sH, sV, sC, sA, sR, it_, op_, List.size_toArray, List.length_cons, List.length_nil, Nat.reduceAdd, Nat.zero_add, List.range, List.range.loop])
  (refine Concl.oper T0 (hnd _ _ rfl) rfl rfl hke (fun K hK => ?_); go_simp; refine hK _ _ ?_; clear hK K; try walk_nrm; try simp only [on_on])
  (refine Concl.step (τ := T0) (hnd _ _ rfl) stepG_region_end ?_)
  (refine Concl.step (τ := T0) (hnd _ _ rfl) stepG_seq ?_)
  refine Concl.step (τ := T0) (hnd _ _ rfl) (stepG_cond (t := false) (by simp [Act.eval, hn])) ?_
  simp only [Bool.false_eq_true, ↓reduceIte]
  refine Concl.step (τ := T0) (hnd _ _ rfl) (stepG_exit rfl) ?_
  (refine Concl.step (τ := T0) (hnd _ _ rfl) stepG_seq ?_)
  (refine Concl.step (τ := T0) (hnd _ _ rfl) stepG_region ?_; simp only [sG, sH, sV, sC, sA, sR, it_, op_, List.size_toArray, List.length_cons, List.length_nil, Nat.reduceAdd, Nat.zero_add, List.range, List.range.loop])
  (refine Concl.oper T0 (hnd _ _ rfl) rfl rfl hke (fun K hK => ?_); go_simp; refine hK _ _ ?_; clear hK K; try walk_nrm; try simp only [on_on])
  (refine Concl.step (τ := T0) (hnd _ _ rfl) stepG_region_end ?_)
  (refine Concl.step (τ := T0) (hnd _ _ rfl) stepG_ret' ?_)
  exact h (fun i => match i with | 18 => .bool false | i => J i)
set_option maxRecDepth 100000 in
set_option maxHeartbeats 4000000 in
/-- A round. -/
theorem stubRound (hnd : ∀ g w, g.frame.fn = fU → ¬ Done g w) {k : CallKind} (hk : k = .normal ∨ k = .deferred) {x y n : Int} (sl : Value) (J : Nat → Value) (hn : n ≤ y) (cs : List Frame) (w : World) (M : Machine) (T : Trace)
    (tab : V.sh.toTables = Tryz.prog.toTables) (τ : Tape) (sl' : Value) (w' : World) (hr : (app1 sl w.heap.size).run V.sh (on (w.alloc (.cells #[.int .i64 n] 3)) τ 0) = .ok sl' w')
    (h : ∀ J' : Nat → Value, Concl V Done (gLoop k x y sl' (IntKind.i64.wrap (n + 7)) J' cs) (on w' T0 0) M T) : Concl V Done (gLoop k x y sl n J cs) w M T := by
  obtain ⟨i, z, hi, hz, hsize, hby, hzs⟩ := info3
  have hi' : V.sh.info? 3 = some i := (tables_info tab 3).trans hi
  have ru : ∀ w, Sem.run V.sh (underlying 23) w = .ok (.slice 3) w := fun w => run_underlying ((tables_under tab 23).trans Tryz.underlying23) w
  have rs : ∀ w, Sem.run V.sh (sizeOf 3) w = .ok 1 w := fun w => by simp [sizeOf, typeInfo, hi', hsize]
  have rz : ∀ w, Sem.run V.sh (zeroValue 3) w = .ok z w := fun w => by simp [zeroValue, typeInfo, hi', hz]
  have hke : (bU k).kind ≠ .early := by rcases hk with rfl | rfl <;> decide
  simp only [gLoop, gS, TL, LS, tailS]
  (refine Concl.step (τ := T0) (hnd _ _ rfl) stepG_seq ?_)
  (refine Concl.step (τ := T0) (hnd _ _ rfl) stepG_region ?_; simp only [sG, sH, sV, sC, sA, sR, it_, op_, List.size_toArray, List.length_cons, List.length_nil, Nat.reduceAdd, Nat.zero_add, List.range, List.range.loop])
  (refine Concl.oper T0 (hnd _ _ rfl) rfl rfl hke (fun K hK => ?_); go_simp; refine hK _ _ ?_; clear hK K; try walk_nrm; try simp only [on_on])
  (refine Concl.step (τ := T0) (hnd _ _ rfl) stepG_region_end ?_)
  (refine Concl.step (τ := T0) (hnd _ _ rfl) stepG_seq ?_)
  refine Concl.step (τ := T0) (hnd _ _ rfl) (stepG_cond (t := true) (by simp [Act.eval, hn])) ?_
  simp only [↓reduceIte]
  (refine Concl.step (τ := T0) (hnd _ _ rfl) stepG_skip ?_)
  (refine Concl.step (τ := T0) (hnd _ _ rfl) stepG_region ?_; simp only [sG, sH, sV, sC, sA, sR, it_, op_, List.size_toArray, List.length_cons, List.length_nil, Nat.reduceAdd, Nat.zero_add, List.range, List.range.loop])
  refine Concl.oper T0 (hnd _ _ rfl) rfl rfl hke (fun K hK => ?_)
  go_simp
  simp only [ru, rs, on_on]
  go_simp
  try simp only [rz]
  try go_simp
  refine hK _ _ ?_
  clear hK K
  try walk_nrm
  have hr' : (Builtin.append_ #[23, 23] 23 #[sl, .slice (some ⟨(on w T0 0).heap.size, 0, none⟩) 1 1]).run V.sh (on ((on w T0 0).alloc (.cells #[.int .i64 n] 3)) τ 0) = .ok sl' w' := hr
  refine Concl.step (τ := τ) (hnd _ _ rfl) (stepG_value (o := op_ 24 (.call { callee := .builtin .append, args := #[.tmp 8, .tmp 23], argTypes := #[23, 23] }) 23) rfl rfl hke (run_append_op rfl rfl hr')) ?_
  simp only [op_]
  try walk_nrm
  (refine Concl.oper T0 (hnd _ _ rfl) rfl rfl hke (fun K hK => ?_); go_simp; refine hK _ _ ?_; clear hK K; try walk_nrm; try simp only [on_on])
  (refine Concl.oper T0 (hnd _ _ rfl) rfl rfl hke (fun K hK => ?_); go_simp; refine hK _ _ ?_; clear hK K; try walk_nrm; try simp only [on_on])
  (refine Concl.oper T0 (hnd _ _ rfl) rfl rfl hke (fun K hK => ?_); go_simp; refine hK _ _ ?_; clear hK K; try walk_nrm; try simp only [on_on])
  (refine Concl.step (τ := T0) (hnd _ _ rfl) stepG_region_end ?_)
  (refine Concl.step (τ := T0) (hnd _ _ rfl) stepG_inLoop ?_)
  exact h (fun i => match i with | 18 => .bool true | 23 => .slice (some ⟨w.heap.size, 0, none⟩) 1 1 | 24 => sl' | 10 => .int .i64 (IntKind.i64.wrap (n + 7)) | i => J i)
def six (w : World) : World := (((((w.alloc hollow).alloc hollow).alloc hollow).alloc hollow).alloc hollow).alloc hollow
def wfS (x : Int) : Int := IntKind.i64.wrap (x + (IntKind.i64.wrap (IntKind.i64.wrap (6 - x) + 1073741830)).tmod 7)
theorem wfS_eq {x : Int} (h0 : -1073741824 ≤ x) (h1 : x ≤ 1073741824) : wfS x = wf x := by
  have e1 : IntKind.i64.wrap (6 - x) = 6 - x := by rw [IntKind.wrap_i64]; omega
  unfold wfS wf br
  rw [e1]
  have e2 : IntKind.i64.wrap (6 - x + 1073741830) = 6 - x + 1073741830 := by rw [IntKind.wrap_i64]; omega
  rw [e2, Int.tmod_eq_emod_of_nonneg (by omega)]
  have l1 : (6 - x).tmod 7 < 7 := Int.tmod_lt_of_pos _ (by decide)
  have l2 : -7 < (6 - x).tmod 7 := Int.lt_tmod_of_pos _ (by decide)
  have l3 : (6 - x) = 7 * (6 - x).tdiv 7 + (6 - x).tmod 7 := (Int.mul_tdiv_add_tmod (6 - x) 7).symm
  generalize (6 - x).tmod 7 = r at l1 l2 l3
  generalize (6 - x).tdiv 7 = q at l3
  split
  · congr 1
    rw [IntKind.wrap_i64]
    omega
  · congr 1
    omega
set_option maxRecDepth 100000 in
set_option maxHeartbeats 4000000 in
/-- From the entry to the loop. -/
theorem stubStart (hnd : ∀ g w, g.frame.fn = fU → ¬ Done g w) {k : CallKind} (hk : k = .normal ∨ k = .deferred) {x y : Int} (hx0 : -1073741824 ≤ x) (hx : x ≤ 1073741824) (hy : y ≤ 1073741824) (J : Nat → Value) (cs : List Frame) (w : World) (M : Machine) (T : Trace)
    (tab : V.sh.toTables = Tryz.prog.toTables) (h : ∀ J' : Nat → Value, Concl V Done (gLoop k x y (.slice none 0 0) (wf x) J' cs) (on (six w) T0 0) M T) : Concl V Done (gS k (TU0 x y J) [.code bodyS] cs) w M T := by
  have ru : ∀ w, Sem.run V.sh (underlying 9) w = .ok .string w := fun w => run_underlying ((tables_under tab 9).trans Tryz.underlying9) w
  have rr : ∀ w, Sem.run V.sh (Instr.range 9 (.string ByteArray.empty)) w = .ok (.pointer (some ⟨w.heap.size, 0, none⟩)) (w.alloc hollow) := fun w => by
    simp [Instr.range, ru]
    rfl
  have hke : (bU k).kind ≠ .early := by rcases hk with rfl | rfl <;> decide
  simp only [gS, TU0, bodyS]
  (refine Concl.step (τ := T0) (hnd _ _ rfl) stepG_seq ?_)
  (refine Concl.step (τ := T0) (hnd _ _ rfl) stepG_region ?_; simp only [sG, sH, sV, sC, sA, sR, it_, op_, List.size_toArray, List.length_cons, List.length_nil, Nat.reduceAdd, Nat.zero_add, List.range, List.range.loop])
  (refine Concl.oper T0 (hnd _ _ rfl) rfl rfl hke (fun K hK => ?_); go_simp; refine hK _ _ ?_; clear hK K; try walk_nrm; try simp only [on_on])
  refine Concl.step (τ := T0) (hnd _ _ rfl) (stepG_unwanted rfl rfl) ?_
  try walk_nrm
  (refine Concl.oper T0 (hnd _ _ rfl) rfl rfl hke (fun K hK => ?_); go_simp; refine hK _ _ ?_; clear hK K; try walk_nrm; try simp only [on_on])
  (refine Concl.oper T0 (hnd _ _ rfl) rfl rfl hke (fun K hK => ?_); go_simp; refine hK _ _ ?_; clear hK K; try walk_nrm; try simp only [on_on])
  (refine Concl.oper T0 (hnd _ _ rfl) rfl rfl hke (fun K hK => ?_); go_simp; refine hK _ _ ?_; clear hK K; try walk_nrm; try simp only [on_on])
  (refine Concl.step (τ := T0) (hnd _ _ rfl) stepG_region_end ?_)
  (refine Concl.step (τ := T0) (hnd _ _ rfl) stepG_seq ?_)
  refine Concl.step (τ := T0) (hnd _ _ rfl) (stepG_cond (t := false) (by simp [Act.eval]; omega)) ?_
  simp only [Bool.false_eq_true, ↓reduceIte]
  (refine Concl.step (τ := T0) (hnd _ _ rfl) stepG_skip ?_)
  (refine Concl.step (τ := T0) (hnd _ _ rfl) stepG_seq ?_)
  refine Concl.step (τ := T0) (hnd _ _ rfl) (stepG_cond (t := false) (by simp [Act.eval]; omega)) ?_
  simp only [Bool.false_eq_true, ↓reduceIte]
  (refine Concl.step (τ := T0) (hnd _ _ rfl) stepG_skip ?_)
  (refine Concl.step (τ := T0) (hnd _ _ rfl) stepG_seq ?_)
  refine Concl.step (τ := T0) (hnd _ _ rfl) (stepG_cond (t := false) (by simp [Act.eval]; omega)) ?_
  simp only [Bool.false_eq_true, ↓reduceIte]
  (refine Concl.step (τ := T0) (hnd _ _ rfl) stepG_skip ?_)
  (refine Concl.step (τ := T0) (hnd _ _ rfl) stepG_seq ?_)
  (refine Concl.step (τ := T0) (hnd _ _ rfl) stepG_region ?_; simp only [sG, sH, sV, sC, sA, sR, it_, op_, List.size_toArray, List.length_cons, List.length_nil, Nat.reduceAdd, Nat.zero_add, List.range, List.range.loop])
  iterate 6
    refine Concl.oper T0 (hnd _ _ rfl) rfl rfl hke (fun K hK => ?_)
    go_simp
    try simp only [rr, on_on]
    try go_simp
    refine hK _ _ ?_
    clear hK K
    try walk_nrm
    try simp only [on_on]
  (refine Concl.step (τ := T0) (hnd _ _ rfl) stepG_region_end ?_)
  (refine Concl.step (τ := T0) (hnd _ _ rfl) stepG_seq ?_)
  (refine Concl.step (τ := T0) (hnd _ _ rfl) stepG_region ?_; simp only [sG, sH, sV, sC, sA, sR, it_, op_, List.size_toArray, List.length_cons, List.length_nil, Nat.reduceAdd, Nat.zero_add, List.range, List.range.loop])
  (refine Concl.oper T0 (hnd _ _ rfl) rfl rfl hke (fun K hK => ?_); go_simp; refine hK _ _ ?_; clear hK K; try walk_nrm; try simp only [on_on])
  (refine Concl.oper T0 (hnd _ _ rfl) rfl rfl hke (fun K hK => ?_); go_simp; refine hK _ _ ?_; clear hK K; try walk_nrm; try simp only [on_on])
  (refine Concl.oper T0 (hnd _ _ rfl) rfl rfl hke (fun K hK => ?_); go_simp; refine hK _ _ ?_; clear hK K; try walk_nrm; try simp only [on_on])
  (refine Concl.oper T0 (hnd _ _ rfl) rfl rfl hke (fun K hK => ?_); go_simp; refine hK _ _ ?_; clear hK K; try walk_nrm; try simp only [on_on])
  (refine Concl.oper T0 (hnd _ _ rfl) rfl rfl hke (fun K hK => ?_); go_simp; refine hK _ _ ?_; clear hK K; try walk_nrm; try simp only [on_on])
  (refine Concl.step (τ := T0) (hnd _ _ rfl) stepG_region_end ?_)
  (refine Concl.step (τ := T0) (hnd _ _ rfl) stepG_seq ?_)
  (refine Concl.step (τ := T0) (hnd _ _ rfl) stepG_block ?_)
  (refine Concl.step (τ := T0) (hnd _ _ rfl) stepG_loop ?_)
  have h' := h (fun i => match i with
    | 2 => .bool (decide (x < -1073741824)) | 3 => .bool (decide (x > 1073741824)) | 5 => .bool (decide (y > 1073741824)) | 10 => .pointer (some ⟨(((((w.alloc hollow).alloc hollow).alloc hollow).alloc hollow).alloc hollow).heap.size, 0, none⟩)
    | 11 => .int .i64 (IntKind.i64.wrap (6 - x)) | 12 => .int .i64 (IntKind.i64.wrap (IntKind.i64.wrap (6 - x) + 1073741830)) | 13 => .int .i64 ((IntKind.i64.wrap (IntKind.i64.wrap (6 - x) + 1073741830)).tmod 7) | i => J i)
  rw [← wfS_eq hx0 hx] at h'
  exact h'
end
end Go.Proofs.YtnknfolnbhljfaaGreatDoor.Up
end

section
/- What the shadow's run tells of upto's arguments. -/
set_option linter.unusedSectionVars false
set_option linter.unusedVariables false
set_option linter.unusedSimpArgs false
namespace Go.Proofs.YtnknfolnbhljfaaGreatDoor.Up
open Go Go.Conc Go.RowKit Go.Conc.Lib Go.Proofs.YtnknfolnbhljfaaGreatDoor.Lift
section
variable {V : Env} {Done : Goroutine → World → Prop}
/-- A step that ends the run is none of Fin's. -/
theorem fin_ended {P : Program} {g : Goroutine} {w : World} {τ : Tape} (h : Fin P Done g w) (nd : ¬ Done g w) (hs : ∃ o w1 es, stepG P true g (on w τ 0) = .ended o w1 es) : False := by
  obtain ⟨o, w1, es, hs⟩ := hs
  cases h with
  | stop hd => exact nd hd
  | step G W E hgo hov hfin =>
    have := hgo τ
    rw [hs] at this
    cases this
def cmpOp (o : BinOp) : Prop := o = .lss ∨ o = .gtr
theorem stuck_ended {P : Program} {b : Frame} {a : Act} {k : List Item} {cs : List Frame} {w w' : World} {ops : Array Oper} {i : Nat} {rest : List Nat} {o : Oper} {m : String} (ho : ops[i]? = some o)
    (hw : Region.wanted o (yielded ops a.tmps) = true) (hk : b.kind ≠ .early) (hr : (execOp a.eval o).runT P w #[] = (.halt (.stuck m) w', #[])) :
    ∃ o w1 es, stepG P true (G (b.at a (.inRegion ops (i :: rest) :: k)) cs) w = .ended o w1 es := by
  have hk' : (b.kind == CallKind.early) = false := by simpa using hk
  rw [stepG_oper ho hw]
  exact ⟨_, _, _, by simp [stepG.apply, hr, G, Frame.at, hk', GStep.after, -Sem.runT_eq]; exact ⟨rfl, rfl, rfl⟩⟩
theorem cmp_ended {P : Program} {b : Frame} {a : Act} {k : List Item} {cs : List Frame} {w : World} {ops : Array Oper} {i : Nat} {rest : List Nat} {d : Tmp} {op : BinOp} {x : Operand} {c : Int} {t : TypeId} (ho : ops[i]? = some (op_ d (.binOp op 3 x (i64 c) 3) t))
    (hw : Region.wanted (op_ d (.binOp op 3 x (i64 c) 3) t) (yielded ops a.tmps) = true) (hk : b.kind ≠ .early) (hop : cmpOp op) (hv : ∀ n, a.eval x ≠ .int .i64 n) :
    ∃ o w1 es, stepG P true (G (b.at a (.inRegion ops (i :: rest) :: k)) cs) w = .ended o w1 es := by
  have hk' : (b.kind == CallKind.early) = false := by simpa using hk
  have hr : ∃ u, ((∃ m, u = Halt.stuck m) ∨ u = .unsupported .addressObserved) ∧ (execOp a.eval (op_ d (.binOp op 3 x (i64 c) 3) t)).runT P w #[] = (.halt u w, #[]) := by
    unfold execOp
    simp only [op_]
    rw [show a.eval (i64 c) = .int .i64 c from rfl]
    generalize a.eval x = v at hv
    have eg : ∀ op, cmpOp op → eqGuard op 3 x (i64 c) v (.int .i64 c) = Pure.pure () := fun op h => by rcases h with rfl | rfl <;> rfl
    rw [eg op hop]
    have hb : ∃ u, ((∃ m, u = Halt.stuck m) ∨ u = .unsupported .addressObserved) ∧ binOp op 3 v (.int .i64 c) = Sem.halt u := by
      cases v with
      | int k n =>
        have hk : k ≠ .i64 := fun e => hv n (by rw [e])
        rcases hop with rfl | rfl <;> exact ⟨_, .inl ⟨_, rfl⟩, by simp [binOp, hk]; rfl⟩
      | pointer a => cases a <;> rcases hop with rfl | rfl <;> exact ⟨_, .inr rfl, rfl⟩
      | _ => rcases hop with rfl | rfl <;> exact ⟨_, .inl ⟨_, rfl⟩, rfl⟩
    obtain ⟨u, hu, hb⟩ := hb
    rw [hb]
    exact ⟨u, hu, rfl⟩
  rw [stepG_oper ho hw]
  obtain ⟨u, hu, hr⟩ := hr
  rcases hu with ⟨m, rfl⟩ | rfl
  · exact ⟨_, _, _, by simp [stepG.apply, hr, G, Frame.at, hk', GStep.after, -Sem.runT_eq]; exact ⟨rfl, rfl, rfl⟩⟩
  · exact ⟨_, _, _, by simp [stepG.apply, hr, G, Frame.at, hk', GStep.after, -Sem.runT_eq]; exact ⟨rfl, rfl, rfl⟩⟩
theorem array28 (T : Array Value) (h : T.size = 28) : ∃ v0 v1 : Value, ∃ J : Nat → Value, T = #[v0, v1, J 2, J 3, J 4, J 5, J 6, J 7, J 8, J 9, J 10, J 11, J 12, J 13, J 14, J 15, J 16, J 17, J 18, J 19, J 20, J 21, J 22, J 23, J 24, J 25, J 26, J 27] := by
  refine ⟨T.getD 0 undef, T.getD 1 undef, fun i => T.getD i undef, ?_⟩
  apply Array.ext
  · simp [h]
  · intro i h1 h2
    have hi : i < 28 := by omega
    rcases i with _ | _ | _ | _ | _ | _ | _ | _ | _ | _ | _ | _ | _ | _ | _ | _ | _ | _ | _ | _ | _ | _ | _ | _ | _ | _ | _ | _ | i <;> first
      | (exfalso; omega)
      | simp [Array.getD, h]
set_option maxRecDepth 100000 in
set_option maxHeartbeats 4000000 in
/-- The temporaries at upto's entry, as the shadow goes on. -/
theorem finArgs (hnd : ∀ g w, g.frame.fn = fU → ¬ Done g w) {k : CallKind} (hk : k = .normal ∨ k = .deferred) {T : Array Value} (hT : 28 ≤ T.size) {cs : List Frame} {w : World} (h : Fin V.sh Done (gS k T [.code bodyS] cs) w) :
    ∃ x y J, T = TU0 x y J ∧ -1073741824 ≤ x ∧ x ≤ 1073741824 ∧ y ≤ 1073741824 := by
  have hke : (bU k).kind ≠ .early := by rcases hk with rfl | rfl <;> decide
  simp only [gS, bodyS] at h
  replace h := fin_next (τ := T0) h (hnd _ _ rfl) stepG_seq
  replace h := fin_next (τ := T0) h (hnd _ _ rfl) stepG_region
  simp only [sG, List.size_toArray, List.length_cons, List.length_nil, Nat.reduceAdd, Nat.zero_add, List.range, List.range.loop] at h
  replace h := fin_next (τ := T0) h (hnd _ _ rfl) (stepG_value (v := .bool true) (w' := on w T0 0) rfl rfl hke rfl)
  by_cases hsz : T.size = 28
  · obtain ⟨v0, v1, J, rfl⟩ := array28 T hsz
    replace h := fin_next (τ := T0) h (hnd _ _ rfl) (stepG_unwanted rfl rfl)
    have hx : ∃ x, v0 = .int .i64 x := Classical.byContradiction fun hn => fin_ended (τ := T0) h (hnd _ _ rfl) (cmp_ended (op := .lss) (x := .tmp 0) (c := -1073741824) rfl rfl hke (.inl rfl) (fun n e => hn ⟨n, e⟩))
    obtain ⟨x, rfl⟩ := hx
    replace h := fin_next (τ := T0) h (hnd _ _ rfl) (stepG_value (v := .bool (decide (x < -1073741824))) (w' := on w T0 0) rfl rfl hke rfl)
    replace h := fin_next (τ := T0) h (hnd _ _ rfl) (stepG_value (v := .bool (decide (x > 1073741824))) (w' := on w T0 0) rfl rfl hke rfl)
    have hy : ∃ y, v1 = .int .i64 y := Classical.byContradiction fun hn => fin_ended (τ := T0) h (hnd _ _ rfl) (cmp_ended (op := .gtr) (x := .tmp 1) (c := 1073741824) rfl rfl hke (.inr rfl) (fun n e => hn ⟨n, e⟩))
    obtain ⟨y, rfl⟩ := hy
    replace h := fin_next (τ := T0) h (hnd _ _ rfl) (stepG_value (v := .bool (decide (y > 1073741824))) (w' := on w T0 0) rfl rfl hke rfl)
    replace h := fin_next (τ := T0) h (hnd _ _ rfl) stepG_region_end
    replace h := fin_next (τ := T0) h (hnd _ _ rfl) stepG_seq
    replace h := fin_next (τ := T0) h (hnd _ _ rfl) (stepG_cond (t := decide (x < -1073741824)) rfl)
    have hx0 : -1073741824 ≤ x := Classical.byContradiction fun hn => by
      rw [if_pos (by simp; omega)] at h
      exact fin_ended (τ := T0) h (hnd _ _ rfl) ⟨_, _, _, rfl⟩
    rw [if_neg (by simp; omega)] at h
    replace h := fin_next (τ := T0) h (hnd _ _ rfl) stepG_skip
    replace h := fin_next (τ := T0) h (hnd _ _ rfl) stepG_seq
    replace h := fin_next (τ := T0) h (hnd _ _ rfl) (stepG_cond (t := decide (x > 1073741824)) rfl)
    have hx1 : x ≤ 1073741824 := Classical.byContradiction fun hn => by
      rw [if_pos (by simp; omega)] at h
      exact fin_ended (τ := T0) h (hnd _ _ rfl) ⟨_, _, _, rfl⟩
    rw [if_neg (by simp; omega)] at h
    replace h := fin_next (τ := T0) h (hnd _ _ rfl) stepG_skip
    replace h := fin_next (τ := T0) h (hnd _ _ rfl) stepG_seq
    replace h := fin_next (τ := T0) h (hnd _ _ rfl) (stepG_cond (t := decide (y > 1073741824)) rfl)
    have hy1 : y ≤ 1073741824 := Classical.byContradiction fun hn => by
      rw [if_pos (by simp; omega)] at h
      exact fin_ended (τ := T0) h (hnd _ _ rfl) ⟨_, _, _, rfl⟩
    exact ⟨x, y, J, rfl, hx0, hx1, hy1⟩
  · exfalso
    have hbig : 28 < T.size := by omega
    refine fin_ended (τ := T0) h (hnd _ _ rfl) ?_
    have hk' : ((bU k).kind == CallKind.early) = false := by simpa using hke
    have hw : Region.wanted (sG.getD 1 default) (yielded sG (T.setIfInBounds 28 (.bool true))) = true := by
      have hy : yielded sG (T.setIfInBounds 28 (.bool true)) 0 = some true := by
        have e : (T.setIfInBounds 28 (.bool true))[28]? = some (.bool true) := by simp [hbig]
        unfold yielded
        simp only [sG, op_, List.getElem?_toArray, List.getElem?_cons_zero, Option.bind_some, e]
      show (yielded sG (T.setIfInBounds 28 (.bool true)) 0 == some true) = true
      rw [hy]
      rfl
    exact stuck_ended (a := ⟨T.setIfInBounds 28 (.bool true), []⟩) (ops := sG) (o := sG.getD 1 default) (w' := on (on w T0 0) T0 0) rfl hw hke rfl
end
end Go.Proofs.YtnknfolnbhljfaaGreatDoor.Up
end

section
/- The caller behind Wait: to its return; and the return itself, in both programs. -/
set_option linter.unusedSectionVars false
set_option linter.unusedVariables false
set_option linter.unusedSimpArgs false
namespace Go.Proofs.YtnknfolnbhljfaaGreatDoor.Up
open Go Go.Conc Go.ConcX Go.RowKit Go.Conc.Lib Go.ConcX.Gen Go.Proofs.YtnknfolnbhljfaaGreatDoor.Lift
/-- At the return: slot 4 holds the result. -/
def gRet (k : CallKind) (T : Array Value) (cs : List Frame) : Goroutine := G { (bU k).at ⟨T, []⟩ [.code .ret] with mode := .returning } cs
section
variable {Shun : Loc → Prop} {B : Nat}
set_option maxRecDepth 100000 in
set_option maxHeartbeats 4000000 in
theorem calEnd {k : CallKind} (hk : k = .normal ∨ k = .deferred) (x y : Int) (bS bO bE Wg Out End : Nat) (cs : List Frame) (sl : Value) (n : Int) (J : Nat → Value) (W : World) :
    ∃ m, Goes Tryz.prog true AtRel (DE (EvL Shun B)) (fun g w => (∃ T : Array Value, T.size = 28 ∧ T[4]? = some sl ∧ g = gRet k T cs) ∧ AtRel W w) m (gBack k x y bS bO bE Wg Out End cs sl n J) W := by
  have hke : (bU k).kind ≠ .early := by rcases hk with rfl | rfl <;> decide
  refine ⟨20, ?_⟩
  simp only [gBack, TH, ops11, c12, c11, c10, c3, bodyU, Tryz.f31, Option.getD_some, ptr]
  try walk_nrm
  (l_in; rw [stepG_region_end]; simp only [goes_go]; refine ⟨fun e he => by simp at he, ?_⟩)
  (l_in; rw [stepG_seq]; simp only [goes_go]; refine ⟨fun e he => by simp at he, ?_⟩)
  (l_in; rw [stepG_region]; simp only [goes_go, List.size_toArray, List.length_cons, List.length_nil, Nat.reduceAdd, Nat.zero_add, List.range, List.range.loop]; refine ⟨fun e he => by simp at he, ?_⟩)
  (l_in
   refine goes_oper_k rfl rfl hke (fun K hK => ?_)
   go_simp
   refine hK _ _ ⟨fun e he => ?_, ?_⟩
   · have hm := mem_listed he
     simp [go_sem, storedEv, *] at hm
   clear hK K
   try walk_nrm)
  (l_in
   refine goes_oper_k rfl rfl hke (fun K hK => ?_)
   go_simp
   refine hK _ _ ⟨fun e he => ?_, ?_⟩
   · have hm := mem_listed he
     simp [go_sem, storedEv, *] at hm
   clear hK K
   try walk_nrm)
  (l_in; rw [stepG_region_end]; simp only [goes_go]; refine ⟨fun e he => by simp at he, ?_⟩)
  (l_in; rw [stepG_ret']; simp only [goes_go]; refine ⟨fun e he => by simp at he, ?_⟩)
  refine Goes.stop (fun w₂ h₂ => ⟨⟨_, ?_, ?_, rfl⟩, ?_⟩)
  · rfl
  · rfl
  · obtain ⟨d, rfl⟩ := h₂
    exact ⟨_, rfl⟩
end
/-- The caller's frame behind a deferred call's return. -/
def retTo (c : Frame) : Frame := match c.mode with
  | .panicking ({ recovered := true, .. } :: older) => match older.dropWhile (!·.goexit) with
    | [] => { c with mode := .returning }
    | rest => { c with mode := .panicking rest }
  | _ => c
theorem retTo_ok {V : Env} {c : Frame} (h : FrameOk V c) : FrameOk V (retTo c) := by
  unfold retTo
  split
  · split
    · exact h.moded _
    · exact h.moded _
  · exact h
/-- The return itself: the same in both programs. -/
theorem ret_step {k : CallKind} (hk : k = .normal ∨ k = .deferred) (sl : Value) (c : Frame) : ∃ c', (∀ (P : Program) (fn : Func), P.funcs[fU]? = some fn → fn.results = #[.tmp 4] → ∀ (T : Array Value) (w : World) (r : List Frame), T[4]? = some sl →
    stepG P true (gRet k T (c :: r)) w = .go (G c' r) w #[]) ∧ ∀ V, FrameOk V c → FrameOk V c' := by
  rcases hk with rfl | rfl
  · refine ⟨c.finish sl, fun P fn hf hr T w r h4 => ?_, fun V h => h.finish sl⟩
    have h4' : T.getD 4 undef = sl := by simp [Array.getD_eq_getD_getElem?, h4]
    exact stepG_leave (b := bU .normal) (a := ⟨T, []⟩) rfl rfl hf (by rw [results_tmp hr, h4']) (events_results_tmp hr _ _)
  · refine ⟨retTo c, fun P fn hf hr T w r h4 => ?_, fun V h => retTo_ok h⟩
    have h4' : T.getD 4 undef = sl := by simp [Array.getD_eq_getD_getElem?, h4]
    have h1 : (results fn T).run P w = .ok sl w := by rw [results_tmp hr, h4']
    have h2 : (results fn T).events P w #[] = #[] := events_results_tmp hr _ _
    simp [gRet, G, stepG, unwind, doReturn, Frame.at, base, hf, h1, h2, seen, GStep.after, retTo]
    rcases c with ⟨fn, tmps, todo, defers, mode, kind, ro⟩
    cases mode with
    | panicking l =>
      rcases l with _ | ⟨⟨v, rec, ge⟩, older⟩
      · rfl
      · cases rec <;> rfl
    | _ => rfl
end Go.Proofs.YtnknfolnbhljfaaGreatDoor.Up
end

section
/- What an operation of the two must meet; and the phase's end: from the kit's 'acquired' back to a frame. (The caller's close reads the channel's block atomically: so the kit's own end does not serve.) -/
set_option linter.unusedSectionVars false
set_option linter.unusedVariables false
namespace Go.Proofs.YtnknfolnbhljfaaGreatDoor.Lift
open Go Go.Conc Go.ConcX
open Go.ConcN (sumTo upd upd_ne upd_same)
def okG (Shun Mine : Loc → Prop) (Wg : Nat) (act : MemAct) : Prop :=
  (∀ x, act.touch? = some x → (Shun x.loc → x.kind ≠ .plain) ∧ (x.kind = .atomic → OfWg Wg x.loc ∨ Mine x.loc)) ∧ ∀ k, act = .go k → k = 1
section
variable {Shun Mine : Loc → Prop} {Wg C B' : Nat}
theorem okG_still {act : MemAct} (h : act.touch? = none) (hg : ∀ k, act ≠ .go k) : okG Shun Mine Wg act := ⟨fun x hx => (by rw [h] at hx; cases hx), fun k e => absurd e (hg k)⟩
theorem okG_cell (a : Addr) (wr sy : Bool) (hs : ¬ Shun (.cell a)) (hm : sy = true → OfWg Wg (.cell a) ∨ Mine (.cell a)) : okG Shun Mine Wg (.access ⟨.cell a, wr, sy⟩) :=
  ⟨fun x hx => by
    simp only [MemAct.touch?, Option.some.injEq] at hx
    subst hx
    exact ⟨fun h => absurd h hs, fun e => hm (by cases sy <;> simp_all)⟩, fun k e => by cases e⟩
theorem okG_wg (a : Addr) (wr : Bool) (h : a.block = Wg) : okG Shun Mine Wg (.access ⟨.cell a, wr, true⟩) :=
  ⟨fun x hx => by
    simp only [MemAct.touch?, Option.some.injEq] at hx
    subst hx
    exact ⟨fun _ => by simp, fun _ => .inl ⟨a, rfl, h⟩⟩, fun k e => by cases e⟩
theorem okG_said (act : MemAct) (a : Addr) (h : act = .mark (.read a) ∨ act = .mark (.write a)) : okG Shun Mine Wg act := by
  rcases h with rfl | rfl <;> exact ⟨fun x hx => by
    simp only [MemAct.touch?, Option.some.injEq] at hx
    subst hx
    exact ⟨fun _ => by simp, fun e => by simp at e⟩, fun k e => by cases e⟩
/-- Behind the closing: all that is named lies below B'. -/
@[reducible] def shyB (Shun Mine : Loc → Prop) (B' Wg C : Nat) (stop : Goroutine → World → Prop) (hW : Wg < B') (hC : C < B') (hCS : ∀ a : Addr, a.block = C → ¬ Shun (.cell a)) : Shy Wg C where
  ok act := okG Shun Mine Wg act ∧ act.low B'
  atomicWg a wr h := ⟨okG_wg a wr h, by show a.block < B'; omega⟩
  readWg a h := ⟨okG_said _ a (.inl rfl), by show a.block < B'; omega⟩
  writeWg a h := ⟨okG_said _ a (.inr rfl), by show a.block < B'; omega⟩
  theirs a wr h := ⟨okG_cell a wr false (hCS a h) (fun e => by cases e), by show a.block < B'; omega⟩
  disable := ⟨okG_still rfl (by simp), trivial⟩
  enable := ⟨okG_still rfl (by simp), trivial⟩
  relMerge := ⟨okG_still rfl (by simp), hW⟩
  acquire := ⟨okG_still rfl (by simp), hW⟩
  go1 := ⟨⟨fun x hx => (by cases hx), fun k e => (by cases e; rfl)⟩, trivial⟩
  start := ⟨okG_still rfl (by simp), trivial⟩
  stop := stop
/-- While the two talk. -/
@[reducible] def shyA (Shun Mine : Loc → Prop) (B Wg C : Nat) (hW : Wg < B) (hC : C < B) (hCS : ∀ a : Addr, a.block = C → ¬ Shun (.cell a)) : Shy Wg C := shyB Shun Mine B Wg C (fun _ _ => False) hW hC hCS
/-- The trace's law under another instance. -/
theorem jt_re {I1 I2 : Shy Wg C} {s : Trace} {p : Nat} (h : @JT Mine Wg C I1 s p) (k : ∀ op ∈ s, @Shy.ok Wg C I2 op.act) : @JT Mine Wg C I2 s p :=
  @JT.mk Mine Wg C I2 s p (@JT.fm Mine Wg C I1 s p h) (@JT.quiet Mine Wg C I1 s p h) (@JT.solo Mine Wg C I1 s p h) (@JT.plain Mine Wg C I1 s p h) (@JT.nr Mine Wg C I1 s p h) (@JT.norel Mine Wg C I1 s p h) k
end
section
variable [Payload] {P : Program} {ty : TypeId} {Wg C Low : Nat} [Shy Wg C] {vals : List Value} {Mine : Loc → Prop} {Post : Value → World → Prop} {c : Nat} {t₀ : Trace} {Shun : Loc → Prop} {B B' : Nat}
omit [Payload] in
theorem wind_facts (hok : ∀ act, Shy.ok Wg C act → okG Shun Mine Wg act ∧ act.low B') (hMS : ∀ l, Mine l → ¬ ShT Wg C l) {s : Trace} {p : Nat} (hj : JT Mine Wg C s p) (hA : Acq Wg s) :
    (∀ i k, s.act? i = some (.go k) → k ≠ 0) ∧
    (∀ i a, touchAt s i = some a → a.loc.isMemory = true → Knows s 0 i ∨ (OfWg Wg a.loc ∧ a.kind = .atomic)) ∧
    (∀ i, s.g? i = some 1 → ∃ j, s.g? j = some 0 ∧ HappensBefore s j i) ∧
    (∀ i a, touchAt s i = some a → Shun a.loc → a.kind ≠ .plain) ∧ (∀ op ∈ s, op.act.low B') := by
  obtain ⟨x0, hx0, hx01, hx02⟩ := hj.fm.go
  obtain ⟨y0, hy0, hy01, hy02⟩ := hj.fm.start
  have late1 : ∀ i op, s[i]? = some op → op.g = 1 → p + 1 ≤ i := by
    intro i op ho h1
    rcases Nat.lt_trichotomy i p with h | rfl | h
    · have := hj.fm.early i op ho h; omega
    · rw [hx0] at ho; cases ho; omega
    · omega
  refine ⟨fun i k h => ?_, fun i a ha hm => ?_, fun i hi => ?_, fun i a ha hs => ?_, fun op hop => (hok _ (hj.oks op hop)).2⟩
  · obtain ⟨op, ho, hoa⟩ := Option.map_eq_some_iff.1 h
    have := (hok _ (hj.oks op (mem_of_getElem? ho))).1.2 k hoa
    omega
  · obtain ⟨x, hx, hxa⟩ := touch_of ha
    obtain ⟨q, r, hr, hq, hg, hh, hrq⟩ := hA
    rcases hj.fm.two hx with e | e
    · have := knows_own hx
      rw [e] at this
      exact .inl this
    · have hgi : s.g? i = some 1 := by simp [Trace.g?, hx, e]
      rcases Nat.lt_or_ge r i with hlt | hle
      · have hnc := hr.after i hlt hgi
        have hk : a.kind = .atomic := by
          by_cases hk : a.kind = .atomic
          · exact hk
          · exact absurd ⟨a, ha, hm, .inl hk⟩ hnc
        rcases ((hok _ (hj.oks x (mem_of_getElem? hx))).1.1 a hxa).2 hk with h | h
        · exact .inr ⟨h, hk⟩
        · exfalso
          obtain ⟨z, hz, hzg⟩ := Option.map_eq_some_iff.1 hr.g
          have h1 := late1 r z hz hzg
          have h2 : p + 1 < i := by omega
          rcases (hj.fm.late i x hx h2).2 a hxa with h3 | ⟨h3, _⟩ | ⟨_, _, h3⟩
          · exact hMS _ h h3
          · omega
          · exact h3 h
      · obtain ⟨z, hz, hzg⟩ := Option.map_eq_some_iff.1 hg
        have edge : HappensBefore s r q := .single (.inr ⟨.marked hrq (.inr hr.act) hq (fun k _ _ => hj.norel k), hr.heard, hh⟩)
        refine .inl ⟨q, z, hz, hzg, .inr ?_⟩
        rcases Nat.lt_or_ge i r with hlt | hge
        · exact .trans (.single (.inl ⟨hlt, 1, hgi, hr.g⟩)) edge
        · obtain rfl : i = r := by omega
          exact edge
  · obtain ⟨op, ho, hog⟩ := Option.map_eq_some_iff.1 hi
    have edge : HappensBefore s p (p + 1) := .single (.inr ⟨.spawn (child := 1) (by rw [act?_of hx0, hx02]) (by rw [act?_of hy0, hy02]) (by simp [Trace.g?, hy0, hy01]), hj.fm.hgo, hj.fm.hstart⟩)
    refine ⟨p, by simp [Trace.g?, hx0, hx01], ?_⟩
    have h1 := late1 i op ho hog
    rcases Nat.lt_or_ge (p + 1) i with h2 | h2
    · exact edge.trans (hb_po h2 hy0 ho (hy01.trans hog.symm))
    · obtain rfl : i = p + 1 := by omega
      exact edge
  · obtain ⟨x, hx, hxa⟩ := touch_of ha
    exact ((hok _ (hj.oks x (mem_of_getElem? hx))).1.1 a hxa).1 hs
/-- The phase's end: a frame again, with one leaver more, the group's cells shunned; goroutine 0 at its stop. -/
theorem wind (hok : ∀ act, Shy.ok Wg C act → okG Shun Mine Wg act ∧ act.low B') (hMS : ∀ l, Mine l → ¬ ShT Wg C l) (hP : Past Shun B t₀) (hB : B ≤ B') {M : Machine} {T : Trace} (h : GDone P ty Wg C Low vals Mine Post c t₀ M T) :
    ∃ (N : Nat) (gs : Array Goroutine) (a : Goroutine) (w : World) (sl : Option (Nat × Nat)) (T' : Trace) (q : Nat → Nat), runNT P N M T = (.next (crowd gs w sl), T') ∧ gs.size = c + 1 ∧ gs[0]? = some a ∧
      a.status = .running ∧ Shy.stop Wg C a w ∧ Leavers P T' gs q ∧ Past (fun l => Shun l ∨ OfWg Wg l) B' T' := by
  obtain ⟨gs, a, b, w, sl, s, q, rfl, hBig, hAcq, φ, L⟩ := h
  obtain ⟨a1, b1, w1, sl1, p, d1, k, mp, r, vs, e, hBase, hG, hA, hq⟩ := hAcq
  obtain ⟨rfl, rfl, rfl, rfl⟩ := duo_inj e
  obtain ⟨go1, known, rooted, shy, low⟩ := wind_facts hok hMS hBase.jt hA
  have hL : Leavers P T gs (upd q c k) := ⟨fun i g hi hg => by
    have hilt : i < gs.size := (Array.getElem?_eq_some_iff.1 hg).1
    by_cases hic : i = c
    · subst hic
      obtain rfl : g = b := by rw [hBig.hc] at hg; exact (Option.some.inj hg).symm
      have := L.dfe 1 (.inr rfl)
      rw [renG_one, hBase.deaf1] at this
      rw [upd_same, this]
      exact hq
    · rw [upd_ne q k hic]
      exact hBig.old i g hi (by have := hBig.size; omega) hg, fun j hj => hBig.above j (by have := hBig.size; omega)⟩
  have hP' := past_of_link hBase.jt.two go1 hP hB L hBase.jt.nr known rooted shy low (hA.handedOver hBase.jt) hBase.deaf0
  have hev : ∀ w w' es, DPj Mine Wg C Low w w' es → ∀ e ∈ es, EvL (fun l => Shun l ∨ OfWg Wg l) B' e := fun _ _ es hD e he => by
    obtain ⟨h1, h2, h3⟩ := hD.2 e he
    obtain ⟨_, ht, _, hk⟩ := h1 0 ""
    refine ⟨fun x hx hs => ?_, h2, h3, (hok _ hk).2⟩
    rcases hs with hs | ⟨a, ha, hb⟩
    · exact ((hok _ hk).1.1 x hx).1 hs
    · exact (ht x hx).2.1 (.inl ⟨a, ha, hb⟩)
  obtain ⟨N, gs', a', w', sl', T', q', hr, hs, h0', hS, hL', hP''⟩ := walk_beside (P := P) hev _ mp gs a w sl T _ (Nat.le_refl _) hBig.h0 hL hP' hG
  exact ⟨N, gs', a', w', sl', T', q', hr, hs.trans hBig.size, h0', hS.1, hS.2, hL', hP''⟩
end
end Go.Proofs.YtnknfolnbhljfaaGreatDoor.Lift
end

section
/- From upto's entry to the two that talk. -/
set_option linter.unusedSectionVars false
set_option linter.unusedVariables false
set_option linter.unusedSimpArgs false
namespace Go.Proofs.YtnknfolnbhljfaaGreatDoor.Up
open Go Go.Conc Go.ConcX Go.RowKit Go.Conc.Lib Go.ConcX.Gen Go.Proofs.YtnknfolnbhljfaaGreatDoor.Lift
open Go.ConcN (sumTo)
/-- Through Add to the go statement, beside leavers: the two stand. -/
theorem upFork {Shun : Loc → Prop} {Wg bS bO bE Out End Low B : Nat} (hW : Wg < B) (hC : bS < B) (hL : Lay bS bO bE Out End Wg Low) (hCS : ∀ a : Addr, a.block = bS → ¬ Shun (.cell a)) {k : CallKind} (hk : k = .normal ∨ k = .deferred) (x y : Int) (J : Nat → Value) (cs : List Frame) {gs : Array Goroutine} {w : World} {sl : Option (Nat × Nat)} {t₀ : Trace} {q : Nat → Nat}
    (h0 : gs[0]? = some (G ((bU k).at ⟨TU3 x y bS bO bE Wg Out End J, []⟩ [.code c3]) cs)) (hLv : Leavers Tryz.prog t₀ gs q) (hear : Deaf t₀ 0 = 0) (hWA : WgAt 97 Wg w 0 0) :
    ∃ N gs' d sl' T q' s p, runNT Tryz.prog N (crowd gs w sl) t₀ = (.next (crowd gs' ((w.setCell (stA Wg) (.int .u64 KK)).at d) sl'), T) ∧
      Big Tryz.prog gs.size gs' (gGo k x y bS bO bE Wg Out End J cs) (born Tryz.prog (callK bS bO bE Wg)) T q' ∧ @Tr (Mine Low End) Wg bS (shyA Shun (Mine Low End) B Wg bS hW hC hCS) gs.size t₀ s T p := by
  letI : Shy Wg bS := shyA Shun (Mine Low End) B Wg bS hW hC hCS
  have hpos : 0 < gs.size := (Array.getElem?_eq_some_iff.1 h0).1
  have hc0 : gs.size ≠ 0 := by omega
  obtain ⟨n0, g0⟩ := cal2 (bS := bS) hk x y bO bE Out End J cs w hWA
  obtain ⟨N0, gs0, a0, w0, sl0, T0, q0, s0, d0, sl0', r0, z0, h00, L0, ST0, K0, ⟨_, a0', go0, n1, g1⟩, st0⟩ :=
    lone_beside (c := gs.size) (t₀ := t₀) (fun _ _ x => x.1) hc0 _ n0 gs _ w sl t₀ q #[] 0 rfl (Nat.le_refl _) h0 hLv ST.nil ⟨id, Link.init hear (hLv.above _ (Nat.le_refl _)) id⟩ g0
  have p0 : 0 < gs0.size := by omega
  have e0 := runNT_then r0 (st0.trans (runT_crowd_go (P := Tryz.prog) (i := 0) h00 (show stepG Tryz.prog (0 == 0) a0 (w0.at d0) = _ from go0)))
  obtain ⟨N1, gs1, a1, w1, sl1, T1, q1, s1, d1, sl1', r1, z1, h01, L1, ST1, K1, ⟨_, a1', go1, n2, g2⟩, st1⟩ :=
    lone_beside (c := gs.size) (t₀ := t₀) (fun _ _ x => x.1) hc0 _ n1 ((gs0.map (woken Tryz.prog a0 a0' (w0.at d0))).setIfInBounds 0 a0') a0' (w0.at d0) sl0' (T0 ++ MemOp.ofEvents 0 a0.frame.fn a0.frame.place #[mk .disable]) q0
      (s0 ++ MemOp.ofEvents 0 a0.frame.fn a0.frame.place #[mk .disable]) 1 rfl (by simp [z0]) (by simp [p0]) (L0.own p0 _ _ _)
      (ST0.mark a0.frame.fn a0.frame.place .disable rfl (by simp) (by simp) Shy.disable) (K0.events hc0 (.inl rfl) a0.frame.fn a0.frame.place _) g1
  have z1' : gs1.size = gs.size := by rw [z1]; simp [z0]
  have p1 : 0 < gs1.size := by omega
  have e1 := runNT_then (ConcX.runNT_trans e0 r1) (st1.trans (runT_crowd_go (P := Tryz.prog) (i := 0) h01 (show stepG Tryz.prog (0 == 0) a1 (w1.at d1) = _ from go1)))
  obtain ⟨N2, gs2, a2, w2, sl2, T2, q2, s2, d2, sl2', r2, z2, h02, L2, ST2, K2, ⟨_, dd, hw2, hsp⟩, st2⟩ :=
    lone_beside (c := gs.size) (t₀ := t₀) (fun _ _ x => x.1) hc0 _ n2 ((gs1.map (woken Tryz.prog a1 a1' (w1.at d1))).setIfInBounds 0 a1') a1' (w1.at d1) sl1' (T1 ++ MemOp.ofEvents 0 a1.frame.fn a1.frame.place #[mk .enable]) q1
      (s1 ++ MemOp.ofEvents 0 a1.frame.fn a1.frame.place #[mk .enable]) 0 rfl (by simp [z1']) (by simp [p1]) (L1.own p1 _ _ _)
      (ST1.mark a1.frame.fn a1.frame.place .enable rfl (by simp) (by simp) Shy.enable) (K1.events hc0 (.inl rfl) a1.frame.fn a1.frame.place _) g2
  have z2' : gs2.size = gs.size := by rw [z2]; simp [z1']
  have p2 : 0 < gs2.size := by omega
  have e2 := runNT_then (ConcX.runNT_trans e1 r2) (st2.trans (runT_crowd_spawn (P := Tryz.prog) (i := 0) h02 (show stepG Tryz.prog (0 == 0) a2 (w2.at d2) = _ from hsp)))
  rw [hw2] at e2
  obtain ⟨hJT, hd0, hd1, hna⟩ := JT.init (Mine := Mine Low End) (x := { g := 0, fn := a2.frame.fn, pos := a2.frame.place, act := .go 1 }) (y := { g := 1, fn := (born Tryz.prog (callK bS bO bE Wg)).frame.fn, pos := a2.frame.place, act := .start }) ST2 ⟨rfl, rfl⟩ ⟨rfl, rfl⟩
  obtain ⟨φ, Lk⟩ := K2
  have Lk2 := (Lk.both hc0 (op := { g := 0, fn := a2.frame.fn, pos := a2.frame.place, act := .go 1 }) (.inl rfl)).both hc0 (op := { g := 1, fn := (born Tryz.prog (callK bS bO bE Wg)).frame.fn, pos := a2.frame.place, act := .start }) (.inr rfl)
  have keep : ∀ op ∈ ((MemOp.ofEvents 0 a2.frame.fn a2.frame.place #[]).push { g := 0, fn := a2.frame.fn, pos := a2.frame.place, act := .go gs2.size }).push { g := gs2.size, fn := (born Tryz.prog (callK bS bO bE Wg)).frame.fn, pos := a2.frame.place, act := .start }, op.act ≠ .mark .disable ∧ op.act ≠ .mark .enable := by
    intro op hop
    simp only [Array.mem_push] at hop
    rcases hop with (hop | rfl) | rfl
    · simp [MemOp.ofEvents] at hop
    · simp
    · simp
  refine ⟨N0 + 1 + N1 + 1 + N2 + 1, (gs2.setIfInBounds 0 (gGo k x y bS bO bE Wg Out End J cs)).push (born Tryz.prog (callK bS bO bE Wg)), dd, sl2', _, q2, _, s2.size, e2, ⟨by simp [z2'], hpos, ?_, ?_, fun j x hj hjc hx => ?_, fun j hj => ?_⟩, ⟨?_, hJT, hd0, hd1, hna⟩⟩
  · rw [Array.getElem?_push_lt (by simpa using p2)]; simp
  · have e : gs.size = (gs2.setIfInBounds 0 (gGo k x y bS bO bE Wg Out End J cs)).size := by simp [z2']
    rw [e, Array.getElem?_push_size]
  · have hx' : gs2[j]? = some x := by
      rw [Array.getElem?_push, if_neg (by simp; omega), Array.getElem?_setIfInBounds_ne (by omega)] at hx
      exact hx
    rw [Deaf_keep _ j _ keep]
    exact L2.old j x hj hx'
  · rw [Deaf_keep _ j _ keep]
    exact L2.above j (by omega)
  · have e4 : T2 ++ ((MemOp.ofEvents 0 a2.frame.fn a2.frame.place #[]).push { g := 0, fn := a2.frame.fn, pos := a2.frame.place, act := .go gs2.size }).push { g := gs2.size, fn := (born Tryz.prog (callK bS bO bE Wg)).frame.fn, pos := a2.frame.place, act := .start }
        = T2 ++ #[renOp gs.size { g := 0, fn := a2.frame.fn, pos := a2.frame.place, act := .go 1 }] ++ #[renOp gs.size { g := 1, fn := (born Tryz.prog (callK bS bO bE Wg)).frame.fn, pos := a2.frame.place, act := .start }] := by
      apply Array.toList_inj.1; simp [renOp, renG, renAct, z2', MemOp.ofEvents]
    have e3 : (s2.push { g := 0, fn := a2.frame.fn, pos := a2.frame.place, act := .go 1 }).push { g := 1, fn := (born Tryz.prog (callK bS bO bE Wg)).frame.fn, pos := a2.frame.place, act := .start }
        = s2 ++ #[{ g := 0, fn := a2.frame.fn, pos := a2.frame.place, act := .go 1 }] ++ #[{ g := 1, fn := (born Tryz.prog (callK bS bO bE Wg)).frame.fn, pos := a2.frame.place, act := .start }] := by simp
    rw [e3, e4]
    exact ⟨_, Lk2⟩
end Go.Proofs.YtnknfolnbhljfaaGreatDoor.Up
end

section
/- What holds while the two talk, and its turns. -/
set_option linter.unusedSectionVars false
set_option linter.unusedVariables false
set_option linter.unusedSimpArgs false
namespace Go.Proofs.YtnknfolnbhljfaaGreatDoor.Up
open Go Go.Conc Go.ConcX Go.RowKit Go.Conc.Lib Go.ConcX.Gen Go.Proofs.YtnknfolnbhljfaaGreatDoor.Lift
open Go.ConcN (sumTo)
section
variable {Shun Mine : Loc → Prop} {B Wg C : Nat} {hW : Wg < B} {hC : C < B} {hCS : ∀ a : Addr, a.block = C → ¬ Shun (.cell a)}
/-- What the open limb lets by, under shyA. -/
theorem ok_read (a : Addr) (h : ¬ Shun (.cell a)) (hb : a.block < B) : (shyA Shun Mine B Wg C hW hC hCS).ok (.access ⟨.cell a, false, false⟩) := ⟨okG_cell a false false h (fun e => by cases e), hb⟩
theorem ok_own {Low End : Nat} (a : Addr) (wr sy : Bool) (hl : Low ≤ a.block) (h : ¬ Shun (.cell a)) (hb : a.block < B) : (shyA Shun (Up.Mine Low End) B Wg C hW hC hCS).ok (.access ⟨.cell a, wr, sy⟩) :=
  ⟨okG_cell a wr sy h (fun _ => .inr (.inl ⟨a, rfl, hl⟩)), hb⟩
theorem ok_noRoom : (shyA Shun Mine B Wg C hW hC hCS).ok (.mark .noRoom) := ⟨okG_still rfl (by simp), trivial⟩
theorem ok_comm {Out : Nat} (hb : Out < B) (s1 r1 : Nat) : (shyA Shun Mine B Wg C hW hC hCS).ok (.send Out s1) ∧ (shyA Shun Mine B Wg C hW hC hCS).ok (.recv Out r1 0) ∧ (shyA Shun Mine B Wg C hW hC hCS).ok (.sendDone Out s1) ∧ (shyA Shun Mine B Wg C hW hC hCS).ok (.recvDone Out r1) :=
  ⟨⟨okG_still rfl (by simp), hb⟩, ⟨okG_still rfl (by simp), hb⟩, ⟨okG_still rfl (by simp), hb⟩, ⟨okG_still rfl (by simp), hb⟩⟩
/-- Under a greater bound. -/
theorem tr_re {c p : Nat} {t₀ s T : Trace} {B2 : Nat} {hW2 : Wg < B2} {hC2 : C < B2} (h : @Tr Mine Wg C (shyA Shun Mine B Wg C hW hC hCS) c t₀ s T p) (hB : B ≤ B2) : @Tr Mine Wg C (shyA Shun Mine B2 Wg C hW2 hC2 hCS) c t₀ s T p := by
  obtain ⟨lk, jt, d0, d1, na⟩ := h
  have ok := @JT.oks Mine Wg C (shyA Shun Mine B Wg C hW hC hCS) s p jt
  exact @Tr.mk Mine Wg C (shyA Shun Mine B2 Wg C hW2 hC2 hCS) c t₀ s T p lk (jt_re (I1 := shyA Shun Mine B Wg C hW hC hCS) (I2 := shyA Shun Mine B2 Wg C hW2 hC2 hCS) jt fun op hop => ⟨(ok op hop).1, MemAct.low_mono hB (ok op hop).2⟩) d0 d1 na
end
theorem aside_chan (w : World) (d Out s r : Nat) : Aside Out w ((w.at d).setChan Out 0 #[] false s r false) := by
  refine ⟨rfl, rfl, rfl, ?_, fun k hk => ?_⟩
  · show (w.heap.setIfInBounds Out _).size = _
    simp
  · rw [Lift.heap_setChan, if_neg hk]
    rfl
theorem at_eq {w1 w2 : World} {d2 d3 : Nat} (h : w2.at d2 = w1.at d3) : w2.heap = w1.heap ∧ w2.tape = w1.tape ∧ w2.os = w1.os ∧ w2.output = w1.output :=
  ⟨show (w2.at d2).heap = (w1.at d3).heap by rw [h], show (w2.at d2).tape = (w1.at d3).tape by rw [h], show (w2.at d2).os = (w1.at d3).os by rw [h], show (w2.at d2).output = (w1.at d3).output by rw [h]⟩
/-- From a receive at which the caller has been picked to the loop's head. -/
theorem recvHead {Shun : Loc → Prop} {Wg bS bO bE Out End Low B c p : Nat} {hW : Wg < B} {hC : bS < B} (hOB : Out < B) {t₀ : Trace} (hL : Lay bS bO bE Out End Wg Low) (hCS : ∀ a : Addr, a.block = bS → ¬ Shun (.cell a)) {k : CallKind} {x y : Int} {cs : List Frame} {slv : Value}
    {mk : Nat} {gs : Array Goroutine} {a b : Goroutine} {w : World} {sl sl' : Option (Nat × Nat)} {d : Nat} {T s : Trace} {q : Nat → Nat} {n : Int} (hB : Big Tryz.prog c gs a b T q) (hT : @Tr (Mine Low End) Wg bS (shyA Shun (Mine Low End) B Wg bS hW hC hCS) c t₀ s T p)
    {D : World → World → Array Event → Prop} (hD : ∀ w w' es, D w w' es → @DK (Mine Low End) Wg bS (shyA Shun (Mine Low End) B Wg bS hW hC hCS) w w' es) (hk : Kid Tryz.prog D Wg Low Out End (.int .i64 0) (.agg #[]) .select (Sel bS bO bE Out End Wg x) mk (.int .i64 n) b (w.at d)) (ho : Lift.Open Out End (w.at d)) (hst : stepT Tryz.prog (crowd gs w sl) = runT Tryz.prog (crowd gs (w.at d) sl') 0)
    (hr : @RecvOk Low k x y bS bO bE Wg Out End (shyA Shun (Mine Low End) B Wg bS hW hC hCS) cs slv a) :
    ∃ N gs' b' w' sl2 T' s' q' mk' J, runNT Tryz.prog N (crowd gs w sl) T = (.next (crowd gs' w' sl2), T') ∧ Big Tryz.prog c gs' (gHead k x y bS bO bE Wg Out End cs slv n J) b' T' q' ∧ @Tr (Mine Low End) Wg bS (shyA Shun (Mine Low End) B Wg bS hW hC hCS) c t₀ s' T' p ∧
      Kid Tryz.prog Dq Wg Low Out End (.int .i64 0) (.agg #[]) .select (Sel bS bO bE Out End Wg x) mk' (.int .i64 (IntKind.i64.wrap (n + 7))) b' w' ∧ Lift.Open Out End w' ∧ Aside Out w w' := by
  letI : Shy Wg bS := shyA Shun (Mine Low End) B Wg bS hW hC hCS
  have hK := kidOk (x := x) (bS := bS) (bO := bO) (bE := bE) (Out := Out) (End := End) (Wg := Wg) (Low := Low)
  obtain ⟨ra, hcomm, hnext⟩ := hr
  obtain ⟨N, gs', b', d', s1, r1, sl2, T', s', q', mk', hrun, hc, hB', hT', hk', ho'⟩ := talk_recv hD hK hL.out.2.1 (ok_comm hOB) hB hT hk ho hst ra hcomm
  obtain ⟨m, hG⟩ := hnext n ((w.at d').setChan Out 0 #[] false (s1 + 1) (r1 + 1) false)
  obtain ⟨N2, gs2, a2, b2, w2, sl3, T2, s2, q2, mk2, d2, sl4, hrun2, hB2, hT2, hk2, ho2, ⟨⟨J, hJ⟩, hat⟩, hst2⟩ :=
    talk_run (fun _ _ _ h => h.dk) hK hL.out.1 hL.end_.1 (fun g w h => by obtain ⟨⟨J, rfl⟩, _⟩ := h; rfl) _ m mk' gs' _ b' _ sl2 T' s' q' _ (Nat.le_refl _) hB' hT' hk' ho' hG
  subst hJ
  obtain ⟨d3, hat⟩ := hat
  have has : Aside Out w w2 := by
    have h1 := aside_chan w d' Out (s1 + 1) (r1 + 1)
    obtain ⟨e, e1, e2, e3⟩ := at_eq hat
    refine ⟨e1.trans h1.tape, e2.trans h1.os, e3.trans h1.output, by rw [e]; exact h1.size, fun k hk => by rw [e]; exact h1.block k hk⟩
  exact ⟨N + N2, gs2, b2, w2, sl3, T2, s2, q2, mk2, J, ConcX.runNT_trans hrun hrun2, hB2, hT2, hk2.rely (fun _ _ _ _ _ => rfl), ho2.of_heap rfl rfl, has⟩
end Go.Proofs.YtnknfolnbhljfaaGreatDoor.Up
end

section
/- The shadow's world beside the true one, while the two talk. -/
set_option linter.unusedSectionVars false
set_option linter.unusedVariables false
set_option linter.unusedSimpArgs false
namespace Go.Proofs.YtnknfolnbhljfaaGreatDoor.Up
open Go Go.Conc Go.ConcX Go.RowKit Go.Proofs.YtnknfolnbhljfaaGreatDoor.Lift
section
variable {V : Env} {Bad : Nat → Prop} {w1 w w' : World}
/-- A shunned block of the phase's turns. -/
theorem sh_aside (h : Sh V Bad w1 w) {c : Nat} (hA : Aside c w w') (hb : Bad c) (hc : V.n0 ≤ c) (ho : ∃ o, w'.heap[c]? = some o ∧ Bare o) : Sh V Bad w1 w' := by
  have hs : V.strict = true → w'.heap = w1.heap → True := fun _ _ => trivial
  refine ⟨h.tab, hA.size.trans h.size, fun i hi => ?_, h.poison, fun i hi => ?_, hA.os.trans h.os, hA.output.trans h.output, h.calm, fun hst => ?_, fun i h1 h2 => ?_, fun i h1 h2 => ?_⟩
  · have hne : i ≠ c := fun e => hi (e ▸ hb)
    rw [hA.block i hne]
    exact h.same i hi
  · by_cases hic : i = c
    · subst hic
      exact .inl ⟨hc, ho⟩
    · rw [hA.block i hic]
      exact h.real i hi
  · exfalso
    have e := h.exact hst
    have p := h.poison c hb
    rcases h.real c hb with ⟨_, o, h1, h2⟩ | ⟨h1, _⟩
    · rw [e, p] at h1
      cases h1
      rcases h2 with ⟨a, b, h2⟩ | ⟨_, _, _, _, _, _, h2⟩ <;> cases h2
    · omega
  · have hne : i ≠ c := fun e => h2 (e ▸ hb)
    rw [hA.block i hne]
    exact h.low i h1 h2
  · rw [hA.block i (by omega)]
    exact h.old i h1 h2
/-- Draws do not matter. -/
theorem sh_draw (h : Sh V Bad w1 w) {τ : Tape} {d : Nat} (e : w'.heap = w.heap) (e2 : w'.os = w.os) (e3 : w'.output = w.output) : Sh V Bad (on w1 τ d) w' :=
  ⟨h.tab, by rw [e]; exact h.size, fun i hi => by rw [e]; exact h.same i hi, h.poison, fun i hi => by rw [e]; exact h.real i hi, e2.trans h.os, e3.trans h.output, h.calm, fun hs => by rw [e]; exact h.exact hs, fun i a b => by rw [e]; exact h.low i a b, fun i a b => by rw [e]; exact h.old i a b⟩
/-- A slice that the run has made is the same in both. -/
theorem sh_owns (h : Sh V Bad w1 w) {base : Nat} {e : TypeId} {size : Nat} {v : Value} {n : Nat} {xs : List Value} (hbase : ∀ g, base ≤ g → ¬ Bad g) (ho : w.ownsRow base e size v n xs) : w1.ownsRow base e size v n xs := by
  refine ⟨ho.1, ho.2.imp id ?_⟩
  rintro ⟨g, cap, cur, e1, e2, e3, e4⟩
  refine ⟨g, cap, cur, e1, e2, ?_, e4⟩
  rcases h.same g (hbase g e2) with e5 | ⟨a1, a2, a3, a4, a5, a6, a7, a8, h1, h2⟩
  · rw [← e5]; exact e3
  · rw [h2] at e3; cases e3
/-- append, in both. -/
theorem app_both (hre : V.re = Tryz.prog) (tab : Tab V) (hB : ∀ i, V.ok i → ¬ Bad i) (hS : Sh V Bad w1 w) {Low : Nat} (hbase : ∀ g, Low ≤ g → ¬ Bad g) (hLow : Low ≤ w.heap.size) {slv : Value} {cnt : Nat} {xs : List Value} (hown : w.ownsRow Low 3 1 slv cnt xs) (hcnt : cnt < 1000000000) {n : Int} {d : Nat} {sl' : Value} {wA : World}
    (hr : (app1 slv w.heap.size).run Tryz.prog ((w.alloc (.cells #[.int .i64 n] 3)).at d) = .ok sl' wA) :
    ∃ τ w1', (app1 slv w1.heap.size).run V.sh (on (w1.alloc (.cells #[.int .i64 n] 3)) τ 0) = .ok sl' w1' ∧ Sh V Bad w1' wA := by
  obtain ⟨i, z, hi, hz, hsize, hby, hzs⟩ := info3
  have ht : V.sh.toTables = Tryz.prog.toTables := tab.tables.trans (by rw [hre])
  have hi' : V.sh.info? 3 = some i := (tables_info ht 3).trans hi
  have hu : V.sh.underlying 23 = some (.slice 3) := (tables_under ht 23).trans Tryz.underlying23
  have hsz := hS.size
  let τ : Tape := fun j q => w.tape (d + j) q
  have hP : Sh V Bad (w1.alloc (.cells #[.int .i64 n] 3)) (w.alloc (.cells #[.int .i64 n] 3)) := hS.push _ rfl
  have hQ : Sh V Bad (on (w1.alloc (.cells #[.int .i64 n] 3)) τ 0) ((w.alloc (.cells #[.int .i64 n] 3)).at d) := sh_draw hP rfl rfl rfl
  have own1 : (on (w1.alloc (.cells #[.int .i64 n] 3)) τ 0).ownsRow Low 3 1 slv cnt xs := by
    have h1 := sh_owns hS hbase hown
    refine ⟨h1.1, h1.2.imp id ?_⟩
    rintro ⟨g, cap, cur, e1, e2, e3, e4⟩
    exact ⟨g, cap, cur, e1, e2, (Below.heap_alloc w1 _ g (Array.getElem?_eq_some_iff.1 e3).1).trans e3, e4⟩
  have hnew : ∀ (j : Nat) (u : Value), ([.int .i64 n] : List Value)[j]? = some u → (on (w1.alloc (.cells #[.int .i64 n] 3)) τ 0).cell? ((⟨w1.heap.size, 0, none⟩ : Addr).add j) = some u := by
    intro j u hj
    obtain rfl : j = 0 := by
      have := (List.getElem?_eq_some_iff.1 hj).1
      simpa using this
    have : u = .int .i64 n := by simpa using hj.symm
    subst this
    show (w1.alloc (.cells #[.int .i64 n] 3)).cell? ⟨w1.heap.size, 0, none⟩ = _
    rw [World.cell?_alloc_new]
    rfl
  have hl63 : cnt + 1 ≤ maxLen := by
    have : 2000000000 ≤ maxLen := by decide
    omega
  obtain ⟨v1, w1', hr1, _⟩ := run_append_own (P := V.sh) (w := on (w1.alloc (.cells #[.int .i64 n] 3)) τ 0) (ty := 23) Low 23 3 i z 1 8 hu hi' hz hsize hby hzs (by decide) slv cnt xs own1 ⟨w1.heap.size, 0, none⟩ 1 1 [.int .i64 n] rfl hnew (by simp; rfl)
    hl63 (by omega) (by show Low ≤ (w1.heap.push _).size; simp; omega)
  have hlead := Lead.append_ tab #[23, 23] 23 #[slv, .slice (some ⟨w1.heap.size, 0, none⟩) 1 1] Bad _ _ w1'.drawn #[] hB hQ (fun k hk => by
    funext q
    show w.tape (d + k) q = w.tape (d + (0 + k)) q
    rw [Nat.zero_add])
  rw [hr1] at hlead
  obtain ⟨w2', new, e2, out⟩ := hlead (by show w1'.drawn ≤ 0 + w1'.drawn; omega)
  have e3 : (app1 slv w.heap.size).run Tryz.prog ((w.alloc (.cells #[.int .i64 n] 3)).at d) = .ok v1 w2' := by
    rw [← hre, ← Sem.runT_fst V.re _ _ #[]]
    unfold app1
    rw [hsz, e2]
  rw [hr] at e3
  cases e3
  exact ⟨τ, w1', hr1, out.sh⟩
end
end Go.Proofs.YtnknfolnbhljfaaGreatDoor.Up
end

section
/- A round of the talk, in both. -/
set_option linter.unusedSectionVars false
set_option linter.unusedVariables false
set_option linter.unusedSimpArgs false
namespace Go.Proofs.YtnknfolnbhljfaaGreatDoor.Up
open Go Go.Conc Go.ConcX Go.RowKit Go.Proofs.YtnknfolnbhljfaaGreatDoor.Lift
open Go.ConcN (sumTo)
/-- The two traces, all named below N. -/
def TrA (Shun : Loc → Prop) (Wg bS Low End c p : Nat) (t₀ : Trace) (hCS : ∀ a : Addr, a.block = bS → ¬ Shun (.cell a)) (N : Nat) (s T : Trace) : Prop :=
  ∃ (B : Nat) (hW : Wg < B) (hC : bS < B), B ≤ N ∧ @Tr (Mine Low End) Wg bS (shyA Shun (Mine Low End) B Wg bS hW hC hCS) c t₀ s T p
theorem midRound {V : Env} {Bad : Nat → Prop} {Shun : Loc → Prop} {Wg bS bO bE Out End Low c p : Nat} {t₀ : Trace} (hL : Lay bS bO bE Out End Wg Low) (hCS : ∀ a : Addr, a.block = bS → ¬ Shun (.cell a)) {k : CallKind} (hk : k = .normal ∨ k = .deferred) {x y : Int} {cs : List Frame} {slv : Value}
    (hre : V.re = Tryz.prog) (tab : Tab V) (hBok : ∀ i, V.ok i → ¬ Bad i) (hbase : ∀ g, Low ≤ g → ¬ Bad g) (hbO : Bad Out) (hn0 : V.n0 ≤ Out) (hSh : ∀ a : Addr, bS ≤ a.block → ¬ Shun (.cell a)) (hShO : ¬ Shun (.cell ⟨bO, 0, none⟩)) (hSl : bS ≤ Low)
    {mk : Nat} {gs : Array Goroutine} {b : Goroutine} {w w1 : World} {sl : Option (Nat × Nat)} {T s : Trace} {q : Nat → Nat} {n : Int} {J : Nat → Value} (hB : Big Tryz.prog c gs (gHead k x y bS bO bE Wg Out End cs slv n J) b T q) (hT : TrA Shun Wg bS Low End c p t₀ hCS w.heap.size s T)
    (hkid : Kid Tryz.prog Dq Wg Low Out End (.int .i64 0) (.agg #[]) .select (Sel bS bO bE Out End Wg x) mk (.int .i64 (IntKind.i64.wrap (n + 7))) b w) (ho : Lift.Open Out End w) (hKR : KR bS bO bE Out End x w) (hLow : Low ≤ w.heap.size)
    {cnt : Nat} {xs : List Value} (hown : w.ownsRow Low 3 1 slv cnt xs) (hcnt : cnt < 1000000000) (hS : Sh V Bad w1 w) (hn : n ≤ y) :
    ∃ N gs' b' w' sl2 T' s' q' mk' J' slv' w1' τ, runNT Tryz.prog N (crowd gs w sl) T = (.next (crowd gs' w' sl2), T') ∧ Big Tryz.prog c gs' (gHead k x y bS bO bE Wg Out End cs slv' (IntKind.i64.wrap (n + 7)) J') b' T' q' ∧ TrA Shun Wg bS Low End c p t₀ hCS w'.heap.size s' T' ∧
      Kid Tryz.prog Dq Wg Low Out End (.int .i64 0) (.agg #[]) .select (Sel bS bO bE Out End Wg x) mk' (.int .i64 (IntKind.i64.wrap (IntKind.i64.wrap (n + 7) + 7))) b' w' ∧ Lift.Open Out End w' ∧ KR bS bO bE Out End x w' ∧ Low ≤ w'.heap.size ∧
      w'.ownsRow Low 3 1 slv' (cnt + 1) (xs ++ [.int .i64 n]) ∧ (app1 slv w1.heap.size).run V.sh (on (w1.alloc (.cells #[.int .i64 n] 3)) τ 0) = .ok slv' w1' ∧ Sh V Bad w1' w' ∧ ∀ j, j < Low → j ≠ Out → w'.heap[j]? = w.heap[j]? := by
  have hW : Wg < w.heap.size + 1 := by have := hL.wg; omega
  have hC : bS < w.heap.size + 1 := by have := hL.s.1; omega
  obtain ⟨B0, hW0, hC0, hB0, hT⟩ := hT
  replace hT := tr_re (hW2 := hW) (hC2 := hC) hT (by omega)
  letI : Shy Wg bS := shyA Shun (Mine Low End) (w.heap.size + 1) Wg bS hW hC hCS
  have hK := kidOk (x := x) (bS := bS) (bO := bO) (bE := bE) (Out := Out) (End := End) (Wg := Wg) (Low := Low)
  obtain ⟨m, hG⟩ := calRound (bS := bS) hk x y hL (ok_read _ hShO (show bO < _ by have := hL.o.1; omega)) cs w (fun a wr sy ha hn => ok_own a wr sy ha (hSh a (by omega)) (by omega)) ok_noRoom hKR.o hLow slv cnt xs hown hcnt n J hn
  obtain ⟨N1, gs1, a1, b1, w2, sl1, T1, s1, q1, mk1, d1, sl1', r1, hB1, hT1, hk1, ho1, ⟨d, slv', wA, hrun, hat, hrow, hgrow, hrecv⟩, hst1⟩ :=
    talk_run (fun _ _ _ h => h.dk) hK hL.out.1 hL.end_.1 (fun g w h => by obtain ⟨_, _, _, _, _, _, _, h⟩ := h; exact h.1) _ m mk gs _ b w sl T s q _ (Nat.le_refl _) hB hT hkid ho hG
  obtain ⟨N2, gs2, b2, w3, sl2, T2, s2, q2, mk2, J2, r2, hB2, hT2, hk2, ho2, hA⟩ := recvHead (hW := hW) (hC := hC) (by have := hL.out.1; omega) hL hCS hB1 hT1 (fun _ _ _ h => h.dk) hk1 ho1 hst1 hrecv
  obtain ⟨τ, w1', hr1, hS1⟩ := app_both hre tab hBok hS hbase hLow hown hcnt hrun
  obtain ⟨d3, hat⟩ := hat
  obtain ⟨e, e1, e2, e3⟩ := at_eq (w1 := wA) (w2 := w2) (d2 := d1) (d3 := d3) hat
  have hS2 : Sh V Bad w1' w2 := by
    have := sh_draw hS1 (w' := w2) (τ := w1'.tape) (d := w1'.drawn) e e2 e3
    exact this
  obtain ⟨⟨so, ro, co⟩, se, re, ce⟩ := id ho2
  have hS3 := sh_aside hS2 hA hbO hn0 ⟨_, co, .inr ⟨_, _, _, _, _, _, rfl⟩⟩
  have hlow : ∀ j, j < Low → j ≠ Out → w3.heap[j]? = w.heap[j]? := fun j hj hne => by
    rw [hA.block j hne, e]
    refine (hgrow.block j (by show j < (w.heap.push _).size; simp; omega) (fun he => ?_)).trans (Below.heap_alloc w _ j (by omega))
    rcases hown.2 with ⟨rfl, _⟩ | ⟨g, cap, cur, rfl, hb, _⟩
    · simp [Value.ownBlock] at he
    · simp only [Value.ownBlock, Option.some.injEq] at he
      omega
  have hgr : w.heap.size + 1 ≤ w3.heap.size := by
    rw [hA.size, e]
    exact Nat.le_trans (by show w.heap.size + 1 ≤ (w.heap.push _).size; simp) hgrow.size
  refine ⟨N1 + N2, gs2, b2, w3, sl2, T2, s2, q2, mk2, J2, slv', w1', τ, ConcX.runNT_trans r1 r2, hB2, ⟨_, hW, hC, hgr, hT2⟩, hk2, ho2, ?_, ?_, ?_, hr1, hS3, hlow⟩
  · exact ⟨(World.cell?_of_block (hlow bS hL.s.1 hL.s.2.1)).trans hKR.s, (World.cell?_of_block (hlow bO hL.o.1 hL.o.2.1)).trans hKR.o, (World.cell?_of_block (hlow bE hL.e.1 hL.e.2.1)).trans hKR.e⟩
  · rw [hA.size, e]
    exact Nat.le_trans hLow (Nat.le_trans (by show w.heap.size ≤ (w.heap.push _).size; simp) hgrow.size)
  · refine ⟨hrow.1, hrow.2.imp id ?_⟩
    rintro ⟨g, cap, cur, h1, h2, h3, h4⟩
    have hgo : g ≠ Out := by have := hL.out.1; omega
    exact ⟨g, cap, cur, h1, h2, by rw [hA.block g hgo, e]; exact h3, h4⟩
end Go.Proofs.YtnknfolnbhljfaaGreatDoor.Up
end

section
/- All rounds of the talk. -/
set_option linter.unusedSectionVars false
set_option linter.unusedVariables false
set_option linter.unusedSimpArgs false
namespace Go.Proofs.YtnknfolnbhljfaaGreatDoor.Up
open Go Go.Conc Go.ConcX Go.RowKit Go.Conc.Lib Go.ConcX.Gen Go.Proofs.YtnknfolnbhljfaaGreatDoor.Lift
/-- The two at the loop's head, the shadow's world beside. -/
def MidSt (V : Env) (Bad : Nat → Prop) (Shun : Loc → Prop) (Wg bS bO bE Out End Low c p : Nat) (t₀ : Trace) (hCS : ∀ a : Addr, a.block = bS → ¬ Shun (.cell a)) (k : CallKind) (x y : Int) (cs : List Frame) (n : Int) (cnt : Nat) (slv : Value) (w1 : World) (gs : Array Goroutine) (w : World) (T : Trace) : Prop :=
  ∃ b s q mk J xs, Big Tryz.prog c gs (gHead k x y bS bO bE Wg Out End cs slv n J) b T q ∧ TrA Shun Wg bS Low End c p t₀ hCS w.heap.size s T ∧
    Kid Tryz.prog Dq Wg Low Out End (.int .i64 0) (.agg #[]) .select (Sel bS bO bE Out End Wg x) mk (.int .i64 (IntKind.i64.wrap (n + 7))) b w ∧ Lift.Open Out End w ∧ KR bS bO bE Out End x w ∧ Low ≤ w.heap.size ∧
    w.ownsRow Low 3 1 slv cnt xs ∧ Sh V Bad w1 w ∧ WgAt 97 Wg w KK 0 ∧ Full bS [.int .i64 x] w
theorem sh_on0 {V : Env} {Bad : Nat → Prop} {w1 w : World} (h : Sh V Bad w1 w) (τ : Tape) (d : Nat) : Sh V Bad (on w1 τ d) w := sh_draw h rfl rfl rfl
theorem midLoop {V : Env} {Done : Goroutine → World → Prop} {Bad : Nat → Prop} {Shun : Loc → Prop} {Wg bS bO bE Out End Low c p : Nat} {t₀ : Trace} (hL : Lay bS bO bE Out End Wg Low) (hCS : ∀ a : Addr, a.block = bS → ¬ Shun (.cell a)) {k : CallKind} (hk : k = .normal ∨ k = .deferred) {x y : Int} {cs cs1 : List Frame}
    (hnd : ∀ g w, g.frame.fn = fU → ¬ Done g w) (hre : V.re = Tryz.prog) (tab : Tab V) (hBok : ∀ i, V.ok i → ¬ Bad i) (hbase : ∀ g, Low ≤ g → ¬ Bad g) (hbO : Bad Out) (hn0 : V.n0 ≤ Out) (hSh : ∀ a : Addr, bS ≤ a.block → ¬ Shun (.cell a)) (hShO : ¬ Shun (.cell ⟨bO, 0, none⟩)) (hSl : bS ≤ Low) (hy : y ≤ 1073741824)
    (hexit : ∀ n cnt slv w1 gs w sl T J, MidSt V Bad Shun Wg bS bO bE Out End Low c p t₀ hCS k x y cs n cnt slv w1 gs w T → ¬ n ≤ y → Concl V Done (gLoop k x y slv n J cs1) w1 (crowd gs w sl) T) :
    ∀ (F : Nat) n cnt slv w1 gs w sl T J, -1073741824 ≤ n → cnt + F < 1000000000 → y - n < 7 * (F : Int) → MidSt V Bad Shun Wg bS bO bE Out End Low c p t₀ hCS k x y cs n cnt slv w1 gs w T → Concl V Done (gLoop k x y slv n J cs1) w1 (crowd gs w sl) T := by
  intro F
  induction F with
  | zero =>
    intro n cnt slv w1 gs w sl T J h0 _ hF hM
    exact hexit n cnt slv w1 gs w sl T J hM (by omega)
  | succ F ih =>
    intro n cnt slv w1 gs w sl T J h0 hc hF hM
    by_cases hn : n ≤ y
    · obtain ⟨b, s, q, mk, J0, xs, hB, hT, hkid, ho, hKR, hLow, hown, hS, hWg, hFull⟩ := hM
      obtain ⟨N, gs', b', w', sl2, T', s', q', mk', J', slv', w1', τ, hr, hB', hT', hk', ho', hKR', hLow', hown', happ, hS', hlow⟩ :=
        midRound hL hCS hk hre tab hBok hbase hbO hn0 hSh hShO hSl hB hT hkid ho hKR hLow hown (by omega) hS hn (sl := sl)
      have e7 : IntKind.i64.wrap (n + 7) = n + 7 := by rw [IntKind.wrap_i64]; omega
      refine Concl.run (N := N) (M' := crowd gs' w' sl2) (T' := T') (by rw [hre]; exact hr) ?_
      refine stubRound hnd hk slv J hn cs1 w1 _ _ (tab.tables.trans (by rw [hre])) τ slv' w1' happ (fun J2 => ?_)
      rw [e7] at hB' hk' ⊢
      exact ih (n + 7) (cnt + 1) slv' (on w1' T0 0) gs' w' sl2 T' J2 (by omega) (by omega) (by omega) ⟨b', s', q', mk', J', _, hB', hT', hk', ho', hKR', hLow', hown', sh_on0 hS' _ _, (hlow Wg hL.wg (Ne.symm hL.out.2.2.1)).trans hWg, fun _ => (hlow bS hL.s.1 hL.s.2.1).trans (hFull rfl)⟩
    · exact hexit n cnt slv w1 gs w sl T J hM hn
end Go.Proofs.YtnknfolnbhljfaaGreatDoor.Up
end
