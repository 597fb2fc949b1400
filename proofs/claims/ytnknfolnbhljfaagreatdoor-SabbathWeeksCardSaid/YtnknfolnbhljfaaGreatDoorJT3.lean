/- Texts of the proof, joined by a program (part 3): contracts of functions, plain laws. -/
import Derived.Test.YtnknfolnbhljfaaGreatDoorJT2
import GoSem.Dispatch
set_option linter.unusedVariables false
set_option linter.unusedSimpArgs false
set_option linter.unusedSectionVars false
section
/- Two worlds walked alike: what one run does in a world whose shunned blocks are empty, a run in the true world does too, for the same answers of the tape; and it touches no shunned block plainly. Generic; no program in sight. -/
namespace Go.Proofs.YtnknfolnbhljfaaGreatDoor.Lift
open Go Go.Conc

set_option linter.unusedSimpArgs false
/-- The next m answers of the two tapes are the same. -/
def Tap (m : Nat) (w1 w2 : World) : Prop := ∀ k, k < m → w2.tape (w2.drawn + k) = w1.tape (w1.drawn + k)

/-- No variable that waits for its initialiser, no loop over a function. -/
def Obj.calm : Obj → Bool
  | .pending .. | .loop .. => false
  | _ => true

/-- The shadow's program and the true one; the true shunned blocks' type; blocks that are not shunned for sure. -/
structure Env where
  sh : Program
  re : Program
  E : TypeId
  n0 : Nat
  strict : Bool
  H0 : Array Obj
  ok : Nat → Prop
  bad0 : Nat → Prop
def Env.add (V : Env) (r : Nat) : Env := { V with ok := fun i => V.ok i ∨ i = r }
/-- What stands in the shadow for a shunned block: an iterator over no text: no operation of ours takes it (Next over a text is barred). -/
def hollow : Obj := .stringIter .empty 0

/-- The same object; or the same channel, but for how often it has been used. -/
def ObjEq (a b : Option Obj) : Prop := b = a ∨ ∃ cap buf cl tm s r s' r', a = some (.chan cap buf cl s r tm) ∧ b = some (.chan cap buf cl s' r' tm)

/-- What a shunned block of the phase's may be: a row with nothing frozen, or a channel. -/
def Bare (o : Obj) : Prop := (∃ c e, o = .cells c e (0, 0)) ∨ ∃ cap buf cl s r tm, o = .chan cap buf cl s r tm
/-- w1: the shadow; w2: the true world. -/
structure Sh (V : Env) (Bad : Nat → Prop) (w1 w2 : World) : Prop where
  tab : V.sh.toTables = V.re.toTables
  size : w2.heap.size = w1.heap.size
  same : ∀ i, ¬ Bad i → ObjEq (w1.heap[i]?) (w2.heap[i]?)
  poison : ∀ i, Bad i → w1.heap[i]? = some hollow
  real : ∀ i, Bad i → (V.n0 ≤ i ∧ ∃ o, w2.heap[i]? = some o ∧ Bare o) ∨ (i < V.n0 ∧ ∃ o, w2.heap[i]? = some o ∧ Obj.calm o = false)
  os : w2.os = w1.os
  output : w2.output = w1.output
  calm : ∀ (i : Nat) (o : Obj), w1.heap[i]? = some o → Obj.calm o = true
  exact : V.strict = true → w2.heap = w1.heap
  low : ∀ i, i < V.n0 → ¬ Bad i → w2.heap[i]? = w1.heap[i]?
  old : ∀ i, i < V.n0 → Bad i → w2.heap[i]? = V.H0[i]?

def BadLoc (n0 : Nat) (Bad : Nat → Prop) : Loc → Prop
  | .cell a => n0 ≤ a.block ∧ Bad a.block
  | .obj r => n0 ≤ r ∧ Bad r
  | _ => False

structure Out (V : Env) (Bad : Nat → Prop) (w1 w2 w1' w2' : World) (new : Array Event) : Prop where
  sh : Sh V Bad w1' w2'
  dr : w2'.drawn + w1.drawn = w2.drawn + w1'.drawn
  t2 : w2'.tape = w2.tape
  evs : ∀ e ∈ new, EvL (BadLoc V.n0 Bad) w2'.heap.size e

/-- A halt behind which the run may go on. -/
def Soft : Halt → Prop
  | .exit _ | .stuck _ => False
  | .unsupported (.initOrder _) => True
  | .unsupported _ => False
  | _ => True
/-- A halt as ours may be: a panic, a Goexit, or the run's end. -/
def Ready : Halt → Prop
  | .unsupported (.initOrder _) => False
  | .panic _ | .goexit | .exit _ | .stuck _ | .unsupported _ => True
  | _ => False

def Leads {α : Type} (V : Env) (Bad : Nat → Prop) (m : Nat) (w1 w2 : World) (es2 : Array Event) (r1 : Result α) (x2 : Result α × Array Event) : Prop :=
  match r1 with
  | .ok a w1' => w1'.drawn ≤ w1.drawn + m → ∃ w2' new, x2 = (.ok a w2', es2 ++ new) ∧ Out V Bad w1 w2 w1' w2' new
  | .halt h w1' => Soft h → w1'.drawn ≤ w1.drawn + m → Ready h ∧ ∃ w2' new, x2 = (.halt h w2', es2 ++ new) ∧ Out V Bad w1 w2 w1' w2' new

def Lead {α : Type} (V : Env) (s : Sem α) : Prop :=
  ∀ (Bad : Nat → Prop) (w1 w2 : World) (m : Nat) (es2 : Array Event), (∀ i, V.ok i → ¬ Bad i) → Sh V Bad w1 w2 → Tap m w1 w2 → Leads V Bad m w1 w2 es2 (s.run V.sh w1) (s.runT V.re w2 es2)

structure Later (w w' : World) : Prop where
  drawn : w.drawn ≤ w'.drawn
  tape : w'.tape = w.tape
  size : w.heap.size ≤ w'.heap.size
theorem Later.refl (w : World) : Later w w := ⟨Nat.le_refl _, rfl, Nat.le_refl _⟩
theorem Later.trans {a b c : World} (h : Later a b) (k : Later b c) : Later a c := ⟨Nat.le_trans h.drawn k.drawn, k.tape.trans h.tape, Nat.le_trans h.size k.size⟩

theorem later_ask {α : Type} : ∀ (x : Ask α) (w : World), Later w (w.ask x).2
  | .done _, w => Later.refl w
  | .ask what range k, w => by
    unfold World.ask
    simp only
    split
    · exact later_ask (k 0) w
    · exact Later.trans (b := { w with drawn := w.drawn + 1 }) ⟨Nat.le_succ _, rfl, Nat.le_refl _⟩ (later_ask _ _)

theorem later_sys (w : World) (c : Sys) : Later w (w.sys c).2 := by
  have h := later_ask (Kernel.perform c w.os) w
  unfold World.sys
  split
  · exact Later.refl w
  · rename_i r os w' heq
    rw [heq] at h
    exact ⟨h.drawn, h.tape, h.size⟩

def Result.world {α : Type} : Result α → World
  | .ok _ w | .halt _ w => w

theorem later_far {p : Program} {w w' : World} {a : Addr} {v : Value} {b : Bool} {l : List Addr} (h : w.farStore p a v b = .ok (w', l)) : Later w w' := by
  unfold World.farStore at h
  split at h
  · rename_i at_ u _
    cases hv : w.viewStore p at_ u a v b with
    | error e => rw [hv] at h; cases h
    | ok r =>
      rw [hv] at h
      obtain rfl : r = (w', l) := by simpa using h
      unfold World.viewStore at hv
      simp only [bind, Except.bind, pure, Except.pure] at hv
      repeat' (split at hv)
      all_goals first
        | (cases hv; done)
        | (simp only [Except.ok.injEq, Prod.mk.injEq] at hv; rw [← hv.1]; exact ⟨Nat.le_refl _, rfl, by simp⟩)
  · cases h

theorem later_run {α : Type} (P : Program) : ∀ (s : Sem α) (w : World), Later w (Result.world (s.run P w))
  | .pure a, w => Later.refl w
  | .load m a k, w => by
    simp only [Sem.run]
    split
    · exact later_run P _ _
    · split
      · exact later_run P _ _
      · exact Later.refl w
  | .store m a v k, w => by
    have base : Later w (Result.world (match w.cell? a with
      | some _ => if w.frozen? a then .halt (.unsupported (.unsafePointer "a write to bytes that a string shares")) w else k.run P (w.setCell a v)
      | none => match w.farStore P a v (m == .atomic) with
        | .ok (w, _) => k.run P w
        | .error h => .halt h w)) := by
      split
      · split
        · exact Later.refl w
        · exact Later.trans (b := w.setCell a v) ⟨Nat.le_refl _, rfl, by simp⟩ (later_run P _ _)
      · split
        · rename_i hf
          exact (later_far hf).trans (later_run P _ _)
        · exact Later.refl w
    cases v <;> first | exact base | exact Later.refl w
  | .new o k, w => by
    simp only [Sem.run]
    exact Later.trans (b := { w with heap := w.heap.push o }) ⟨Nat.le_refl _, rfl, by simp⟩ (later_run P _ _)
  | .shape r k, w => later_run P (k _) w
  | .freeze a n k, w => by
    simp only [Sem.run]
    refine Later.trans (b := w.freeze a n) ?_ (later_run P _ _)
    unfold World.freeze
    split
    · exact Later.refl w
    · exact ⟨Nat.le_refl _, rfl, by simp⟩
  | .frozen a k, w => later_run P (k _) w
  | .getObj r k, w => by
    simp only [Sem.run]
    split
    · exact Later.refl w
    · exact later_run P _ _
    · exact Later.refl w
  | .setObj r o k, w => by
    simp only [Sem.run]
    split
    · exact Later.refl w
    · exact Later.trans (b := { w with heap := w.heap.setIfInBounds r o }) ⟨Nat.le_refl _, rfl, by simp⟩ (later_run P _ _)
    · exact Later.refl w
  | .choose q k, w => by
    simp only [Sem.run]
    split
    · exact later_run P _ _
    · exact Later.trans (b := { w with drawn := w.drawn + 1 }) ⟨Nat.le_succ _, rfl, Nat.le_refl _⟩ (later_run P _ _)
  | .sys c k, w => by
    simp only [Sem.run]
    exact (later_sys w c).trans (later_run P _ _)
  | .program k, w => later_run P (k P) w
  | .mark m k, w => later_run P k w
  | .halt h, w => Later.refl w

section
variable {V : Env}

theorem Tap.mono {m m' : Nat} {w1 w2 : World} (h : Tap m w1 w2) (hm : m' ≤ m) : Tap m' w1 w2 := fun k hk => h k (by omega)

theorem Tap.next {m : Nat} {w1 w2 w1' w2' : World} (h : Tap m w1 w2) (l1 : Later w1 w1') (t2 : w2'.tape = w2.tape) (dr : w2'.drawn + w1.drawn = w2.drawn + w1'.drawn) :
    Tap (m - (w1'.drawn - w1.drawn)) w1' w2' := by
  intro k hk
  have := l1.drawn
  have h0 := h (w1'.drawn - w1.drawn + k) (by omega)
  rw [t2, l1.tape]
  rw [show w2'.drawn + k = w2.drawn + (w1'.drawn - w1.drawn + k) by omega, show w1'.drawn + k = w1.drawn + (w1'.drawn - w1.drawn + k) by omega]
  exact h0

theorem evL_grow {S : Loc → Prop} {B B' : Nat} (h : B ≤ B') {e : Event} (he : EvL S B e) : EvL S B' e := ⟨he.1, he.2.1, he.2.2.1, MemAct.low_mono h he.2.2.2⟩

theorem Out.trans {Bad : Nat → Prop} {w1 w2 v1 v2 u1 u2 : World} {n1 n2 : Array Event} (h : Out V Bad w1 w2 v1 v2 n1) (k : Out V Bad v1 v2 u1 u2 n2) (lu : Later v1 u1) : Out V Bad w1 w2 u1 u2 (n1 ++ n2) :=
  ⟨k.sh, by have := h.dr; have := k.dr; omega, k.t2.trans h.t2, fun e he => by
    rcases Array.mem_append.1 he with h1 | h1
    · exact evL_grow (by rw [h.sh.size, k.sh.size]; exact lu.size) (h.evs e h1)
    · exact k.evs e h1⟩

theorem Sh.add {r : Nat} {Bad : Nat → Prop} {w1 w2 : World} (h : Sh V Bad w1 w2) : Sh (V.add r) Bad w1 w2 := ⟨h.tab, h.size, h.same, h.poison, h.real, h.os, h.output, h.calm, h.exact, h.low, h.old⟩
theorem Sh.strip {r : Nat} {Bad : Nat → Prop} {w1 w2 : World} (h : Sh (V.add r) Bad w1 w2) : Sh V Bad w1 w2 := ⟨h.tab, h.size, h.same, h.poison, h.real, h.os, h.output, h.calm, h.exact, h.low, h.old⟩
theorem Out.strip {r : Nat} {Bad : Nat → Prop} {w1 w2 w1' w2' : World} {n : Array Event} (h : Out (V.add r) Bad w1 w2 w1' w2' n) : Out V Bad w1 w2 w1' w2' n := ⟨h.sh.strip, h.dr, h.t2, h.evs⟩
theorem Out.refl {Bad : Nat → Prop} {w1 w2 : World} (h : Sh V Bad w1 w2) : Out V Bad w1 w2 w1 w2 #[] := ⟨h, by omega, rfl, by simp⟩

theorem Lead.pure {α : Type} (a : α) : Lead V (Pure.pure a : Sem α) := by
  intro Bad w1 w2 m es2 hB hS hT
  exact fun _ => ⟨w2, #[], by simp [Pure.pure, Sem.runT, -Sem.runT_eq], Out.refl hS⟩

theorem Lead.bind {α β : Type} {x : Sem α} {f : α → Sem β} (hx : Lead V x) (hf : ∀ a, Lead V (f a)) : Lead V (x >>= f) := by
  intro Bad w1 w2 m es2 hB hS hT
  have h1 := hx Bad w1 w2 m es2 hB hS hT
  have l1 := later_run V.sh x w1
  show Leads V Bad m w1 w2 es2 ((x.bind f).run V.sh w1) ((x.bind f).runT V.re w2 es2)
  rw [Sem.run_bind' V.sh x f w1, Sem.runT_bind' V.re x f w2 es2]
  cases hr : x.run V.sh w1 with
  | ok a v1 =>
    rw [hr] at h1 l1
    simp only [Result.andThen]
    have l2 := later_run V.sh (f a) v1
    simp only [Leads] at h1
    simp only [Result.world] at l1
    have hl := l1.drawn
    cases hr2 : (f a).run V.sh v1 with
    | ok b u1 =>
      rw [hr2] at l2
      simp only [Result.world] at l2
      intro hm
      have := l2.drawn
      obtain ⟨v2, n1, e1, o1⟩ := h1 (by omega)
      have h2 := hf a Bad v1 v2 (m - (v1.drawn - w1.drawn)) (es2 ++ n1) hB o1.sh (hT.next l1 o1.t2 o1.dr)
      rw [hr2] at h2
      obtain ⟨u2, n2, e2, o2⟩ := h2 (by omega)
      refine ⟨u2, n1 ++ n2, ?_, o1.trans o2 l2⟩
      rw [e1]
      simp only
      rw [e2, Array.append_assoc]
    | halt h u1 =>
      rw [hr2] at l2
      simp only [Result.world] at l2
      intro hh hm
      have := l2.drawn
      obtain ⟨v2, n1, e1, o1⟩ := h1 (by omega)
      have h2 := hf a Bad v1 v2 (m - (v1.drawn - w1.drawn)) (es2 ++ n1) hB o1.sh (hT.next l1 o1.t2 o1.dr)
      rw [hr2] at h2
      obtain ⟨rd, u2, n2, e2, o2⟩ := h2 hh (by omega)
      refine ⟨rd, u2, n1 ++ n2, ?_, o1.trans o2 l2⟩
      rw [e1]
      simp only
      rw [e2, Array.append_assoc]
  | halt h v1 =>
    rw [hr] at h1
    simp only [Result.andThen]
    intro hh hm
    obtain ⟨rd, v2, n1, e1, o1⟩ := h1 hh hm
    exact ⟨rd, v2, n1, by rw [e1], o1⟩

theorem Lead.map {α β : Type} {x : Sem α} {f : α → β} (hx : Lead V x) : Lead V (f <$> x) := Lead.bind (f := fun a => Pure.pure (f a)) hx fun _ => Lead.pure _

theorem Lead.soft {α : Type} (h : Halt) (hr : Ready h := by trivial) : Lead V (.halt h : Sem α) := by
  intro Bad w1 w2 m es2 hB hS hT
  exact fun _ _ => ⟨hr, w2, #[], by simp [Sem.runT, -Sem.runT_eq], Out.refl hS⟩

theorem block_lt {w : World} {a : Addr} {v : Value} (hc : w.cell? a = some v) : a.block < w.heap.size := by
  unfold World.cell? at hc
  split at hc
  · rename_i h
    exact (Array.getElem?_eq_some_iff.1 h).1
  · cases hc
theorem Sh.notBad_of_cell {Bad : Nat → Prop} {w1 w2 : World} (h : Sh V Bad w1 w2) {a : Addr} {v : Value} (hc : w1.cell? a = some v) : ¬ Bad a.block := by
  intro hb
  unfold World.cell? at hc
  rw [h.poison _ hb] at hc
  simp [hollow] at hc

theorem Sh.cell {Bad : Nat → Prop} {w1 w2 : World} (h : Sh V Bad w1 w2) {a : Addr} (hb : ¬ Bad a.block) : w2.cell? a = w1.cell? a := by
  unfold World.cell?
  rcases h.same _ hb with e | ⟨cap, buf, cl, tm, s, r, s', r', e1, e2⟩
  · rw [e]
  · rw [e1, e2]
theorem Sh.frozen {Bad : Nat → Prop} {w1 w2 : World} (h : Sh V Bad w1 w2) (a : Addr) : w2.frozen? a = w1.frozen? a := by
  unfold World.frozen?
  by_cases hb : Bad a.block
  · rcases h.real _ hb with ⟨_, o, h2, h3⟩ | ⟨_, o, h2, h3⟩
    · rw [h.poison _ hb, h2]
      rcases h3 with ⟨c, e, rfl⟩ | ⟨cap, buf, cl, s, r, tm, rfl⟩ <;> simp [hollow]
    · rw [h.poison _ hb, h2]
      cases o <;> first | rfl | cases h3
  · rcases h.same _ hb with e | ⟨cap, buf, cl, tm, s, r, s', r', e1, e2⟩
    · rw [e]
    · rw [e1, e2]

theorem Sh.lt {Bad : Nat → Prop} {w1 w2 : World} (h : Sh V Bad w1 w2) {i : Nat} {o : Obj} (hc : w1.heap[i]? = some o) : i < w2.heap.size := by
  rw [h.size]
  exact (Array.getElem?_eq_some_iff.1 hc).1

theorem seen_cells {p : Program} {w : World} {at_ : Addr} {u : TypeId} {k : Addr} {b : Bool} {r : Array Value × TypeId × (Nat × Nat) × Nat × Value × List (Nat × Nat × List UInt8)} (h : w.seen p at_ u k b = .ok r) :
    w.heap[at_.block]? = some (.cells r.1 r.2.1 r.2.2.1) := by
  unfold World.seen at h
  simp only [bind, Except.bind, pure, Except.pure] at h
  repeat' (split at h)
  all_goals first
    | (cases h; done)
    | (simp only [Except.ok.injEq] at h; subst h; assumption)
theorem seen_heap {p : Program} {w1 w2 : World} {at_ : Addr} (e : w2.heap[at_.block]? = w1.heap[at_.block]?) (u : TypeId) (k : Addr) (b : Bool) : w2.seen p at_ u k b = w1.seen p at_ u k b := by
  unfold World.seen
  rw [e]
theorem Sh.seen {Bad : Nat → Prop} {w1 w2 : World} (h : Sh V Bad w1 w2) {at_ : Addr} {u : TypeId} {k : Addr} {b : Bool} {r : Array Value × TypeId × (Nat × Nat) × Nat × Value × List (Nat × Nat × List UInt8)} (hr : w1.seen V.sh at_ u k b = .ok r) :
    w2.seen V.re at_ u k b = .ok r ∧ ¬ Bad at_.block ∧ at_.block < w2.heap.size := by
  have hc := seen_cells hr
  have hb : ¬ Bad at_.block := fun hb => by
    rw [h.poison _ hb] at hc
    cases hc
  refine ⟨?_, hb, h.lt hc⟩
  have e : w2.heap[at_.block]? = w1.heap[at_.block]? := by
    rcases h.same _ hb with e | ⟨cap, buf, cl, tm, s, r, s', r', e1, e2⟩
    · exact e
    · rw [e1] at hc
      cases hc
  rw [seen_heap e, ← tables_seen h.tab]
  exact hr
theorem Sh.viewLoad {Bad : Nat → Prop} {w1 w2 : World} (h : Sh V Bad w1 w2) {at_ : Addr} {u : TypeId} {k : Addr} {b : Bool} {r : Value × List Addr} (hr : w1.viewLoad V.sh at_ u k b = .ok r) :
    w2.viewLoad V.re at_ u k b = .ok r ∧ ∀ a ∈ r.2, a.block = at_.block ∧ ¬ Bad at_.block ∧ at_.block < w2.heap.size := by
  unfold World.viewLoad at hr ⊢
  cases hs : w1.seen V.sh at_ u k b with
  | error e => rw [hs] at hr; cases hr
  | ok x =>
    obtain ⟨h1, h2, h3⟩ := h.seen hs
    rw [hs] at hr
    rw [h1]
    refine ⟨hr, fun a ha => ⟨?_, h2, h3⟩⟩
    obtain ⟨c, e, f, fi, like, cells⟩ := x
    simp only [bind, Except.bind, pure, Except.pure] at hr
    repeat' (split at hr)
    all_goals first
      | (cases hr; done)
      | (simp only [Except.ok.injEq] at hr
         subst hr
         obtain ⟨x, _, rfl⟩ := List.mem_map.1 ha
         rfl)
theorem Sh.viewStore {Bad : Nat → Prop} {w1 w2 : World} (h : Sh V Bad w1 w2) {at_ : Addr} {u : TypeId} {k : Addr} {v : Value} {b : Bool} {w1' : World} {l : List Addr} (hr : w1.viewStore V.sh at_ u k v b = .ok (w1', l)) :
    ∃ c e f, w1' = { w1 with heap := w1.heap.setIfInBounds at_.block (.cells c e f) } ∧ w2.viewStore V.re at_ u k v b = .ok ({ w2 with heap := w2.heap.setIfInBounds at_.block (.cells c e f) }, l) ∧ ¬ Bad at_.block ∧ at_.block < w2.heap.size ∧ ∀ a ∈ l, a.block = at_.block := by
  rw [tables_viewStore h.tab] at hr
  unfold World.viewStore at hr ⊢
  cases hs : w1.seen V.sh at_ u k b with
  | error e =>
    rw [tables_seen h.tab] at hs
    simp only [bind, Except.bind, pure, Except.pure, hs] at hr
    repeat' (split at hr)
    all_goals cases hr
  | ok x =>
    obtain ⟨h1, h2, h3⟩ := h.seen hs
    rw [tables_seen h.tab] at hs
    obtain ⟨c, e, f, fi, like, cells⟩ := x
    simp only [bind, Except.bind, pure, Except.pure, hs] at hr
    simp only [bind, Except.bind, pure, Except.pure, h1]
    split at hr
    · cases hr
    · rename_i ht
      rw [if_neg ht]
      split at hr
      · rename_i bytes hbs
        split at hr
        · cases hr
        · rename_i hl
          rw [if_neg hl]
          split at hr
          · cases hr
          · rename_i c' hc'
            simp only [Except.ok.injEq, Prod.mk.injEq] at hr
            obtain ⟨rfl, rfl⟩ := hr
            refine ⟨c', e, f, rfl, ?_, h2, h3, ?_⟩
            · first | rfl | (simp only [hc']; done) | rw [hc']
            · intro a ha
              obtain ⟨x, _, rfl⟩ := List.mem_map.1 ha
              rfl
      · cases hr
theorem farLoad_view {p : Program} {w : World} {a at_ : Addr} {u : TypeId} (b : Bool) (h : w.heap[a.block]? = some (.view at_ u)) :
    w.farLoad p a b = match w.viewLoad p at_ u a b with
      | .ok r => .ok r
      | .error why => .error (.unsupported (.unsafePointer why)) := by
  unfold World.farLoad
  rw [h]
  rfl
theorem farLoad_no {p : Program} {w : World} {a : Addr} (b : Bool) (h : ∀ at_ u, w.heap[a.block]? ≠ some (.view at_ u)) :
    w.farLoad p a b = .error (w.noCell a "load: no such cell") := by
  unfold World.farLoad
  split
  · rename_i heq
    exact absurd heq (h _ _)
  · rfl
theorem farStore_view {p : Program} {w : World} {a at_ : Addr} {u : TypeId} (v : Value) (b : Bool) (h : w.heap[a.block]? = some (.view at_ u)) :
    w.farStore p a v b = match w.viewStore p at_ u a v b with
      | .ok r => .ok r
      | .error why => .error (.unsupported (.unsafePointer why)) := by
  unfold World.farStore
  rw [h]
  rfl
theorem farStore_no {p : Program} {w : World} {a : Addr} (v : Value) (b : Bool) (h : ∀ at_ u, w.heap[a.block]? ≠ some (.view at_ u)) :
    w.farStore p a v b = .error (w.noCell a "store: no such cell") := by
  unfold World.farStore
  split
  · rename_i heq
    exact absurd heq (h _ _)
  · rfl
theorem evL_cell {Bad : Nat → Prop} {n0 B : Nat} {wr sy : Bool} {a : Addr} (hb : ¬ Bad a.block) (hr : a.block < B) : EvL (BadLoc n0 Bad) B ⟨.cell a, wr, sy⟩ := by
  refine ⟨fun x hx hs => ?_, by simp, by simp, ?_⟩
  · have : x.loc = .cell a := by
      cases wr <;> cases sy <;> simp [MemAct.ofEvent, MemAct.touch?] at hx <;> rw [← hx]
    rw [this] at hs
    exact absurd hs.2 hb
  · cases wr <;> cases sy <;> exact hr

theorem Lead.load (a : Addr) (md : Mode) : Lead V (Go.load a md) := by
  intro Bad w1 w2 m es2 hB hS hT
  unfold Go.load
  simp only [Sem.run]
  cases hc : w1.cell? a with
  | some v =>
    have hb := hS.notBad_of_cell hc
    have hc2 : w2.cell? a = some v := (hS.cell hb).trans hc
    intro _
    refine ⟨w2, #[⟨.cell a, false, md == .atomic⟩], by simp [Sem.runT, hc2, -Sem.runT_eq], hS, by omega, rfl, ?_⟩
    intro e he
    obtain rfl : e = ⟨.cell a, false, md == .atomic⟩ := by simpa using he
    refine ⟨fun x hx hs => ?_, by simp, by simp, ?_⟩
    · have hx' : x = ⟨.cell a, false, if (md == .atomic) = true then .atomic else .plain⟩ := by
        simpa [MemAct.ofEvent, MemAct.touch?] using hx.symm
      subst hx'
      exact absurd hs.2 hb
    · exact block_lt hc2
  | none =>
    simp only
    have hno : ∀ (s : String), ¬ Soft (w1.noCell a s) := fun s => by
      unfold World.noCell
      split
      · rename_i heq
        have := hS.calm _ _ heq
        cases this
      · simp [Soft]
      · simp [Soft]
    by_cases hv : ∃ at_ u, w1.heap[a.block]? = some (.view at_ u)
    · obtain ⟨at_, u, ho⟩ := hv
      · rw [farLoad_view _ ho]
        cases hf : w1.viewLoad V.sh at_ u a (md == Mode.atomic) with
        | error e => exact fun h0 => absurd h0 (by simp [Soft])
        | ok r =>
          obtain ⟨h1, h2⟩ := hS.viewLoad hf
          have hb : ¬ Bad a.block := fun hb => by
            rw [hS.poison _ hb] at ho
            cases ho
          have ho2 : w2.heap[a.block]? = some (.view at_ u) := by
            rcases hS.same _ hb with e | ⟨cap, buf, cl, tm, s, r, s', r', e1, e2⟩
            · rw [e, ho]
            · rw [e1] at ho
              cases ho
          have hc2 : w2.cell? a = none := (hS.cell hb).trans hc
          intro _
          refine ⟨w2, (r.2.map (fun x => (⟨.cell x, false, md == Mode.atomic⟩ : Event))).toArray, ?_, hS, by omega, rfl, ?_⟩
          · simp [Sem.runT, hc2, farLoad_view _ ho2, h1, -Sem.runT_eq]
          · intro e he
            obtain ⟨x, hx, rfl⟩ := List.mem_map.1 (by simpa using he : e ∈ r.2.map (fun x => (⟨.cell x, false, md == Mode.atomic⟩ : Event)))
            obtain ⟨e1, e2, e3⟩ := h2 x hx
            exact evL_cell (e1 ▸ e2) (by rw [e1]; exact e3)
    · rw [farLoad_no _ (fun at_ u e => hv ⟨at_, u, e⟩)]
      exact fun h0 => absurd h0 (hno _)

theorem Sh.setObj {Bad : Nat → Prop} {w1 w2 : World} (h : Sh V Bad w1 w2) {r : Nat} (o : Obj) (hb : ¬ Bad r) (ho : Obj.calm o = true) : Sh V Bad { w1 with heap := w1.heap.setIfInBounds r o } { w2 with heap := w2.heap.setIfInBounds r o } := by
  refine ⟨h.tab, by simp [h.size], ?_, ?_, ?_, h.os, h.output, ?_, fun hs => by simp only [h.exact hs], ?_, ?_⟩
  · intro i hi
    simp only [Array.getElem?_setIfInBounds, h.size]
    split
    · split <;> exact .inl rfl
    · exact h.same i hi
  · intro i hi
    have hne : r ≠ i := fun e => hb (e ▸ hi)
    simp only [Array.getElem?_setIfInBounds]
    rw [if_neg hne]
    exact h.poison i hi
  · intro i hi
    have hne : r ≠ i := fun e => hb (e ▸ hi)
    simp only [Array.getElem?_setIfInBounds]
    rw [if_neg hne]
    exact h.real i hi
  · intro i o' ho'
    simp only [Array.getElem?_setIfInBounds] at ho'
    split at ho'
    · split at ho'
      · rw [← Option.some.inj ho']; exact ho
      · cases ho'
    · exact h.calm i o' ho'
  · intro i h1 h2
    simp only [Array.getElem?_setIfInBounds, h.size]
    split
    · rfl
    · exact h.low i h1 h2
  · intro i h1 hi
    have hne : r ≠ i := fun e => hb (e ▸ hi)
    simp only [Array.getElem?_setIfInBounds]
    rw [if_neg hne]
    exact h.old i h1 hi

theorem Sh.setCell {Bad : Nat → Prop} {w1 w2 : World} (h : Sh V Bad w1 w2) {a : Addr} (v : Value) (hb : ¬ Bad a.block) : Sh V Bad (w1.setCell a v) (w2.setCell a v) := by
  have hm : ∀ (w : World) (i : Nat), (w.setCell a v).heap[i]? = if i = a.block then (w.heap[i]?).map (fun o => match o with
      | .cells c elem frozen => .cells (if a.spot.isSome then c else c.setIfInBounds a.off v) elem frozen
      | o => o) else w.heap[i]? := by
    intro w i
    unfold World.setCell
    simp only [Array.getElem?_modify]
    by_cases hi : a.block = i
    · subst hi
      rw [if_pos rfl, if_pos rfl]
      cases w.heap[a.block]? with
      | none => rfl
      | some o => cases o <;> rfl
    · rw [if_neg hi, if_neg (fun e => hi e.symm)]
  refine ⟨h.tab, ?_, ?_, ?_, ?_, h.os, h.output, ?_, fun hs => by unfold World.setCell; simp only [h.exact hs], ?_, ?_⟩
  · simp [h.size]
  · intro i hi
    rw [hm, hm]
    rcases h.same i hi with e | ⟨cap, buf, cl, tm, s, r, s', r', e1, e2⟩
    · rw [e]; exact .inl rfl
    · rw [e1, e2]
      right
      split <;> exact ⟨cap, buf, cl, tm, s, r, s', r', rfl, rfl⟩
  · intro i hi
    have hne : i ≠ a.block := fun e => hb (e ▸ hi)
    rw [hm, if_neg hne]
    exact h.poison i hi
  · intro i hi
    have hne : i ≠ a.block := fun e => hb (e ▸ hi)
    rw [hm, if_neg hne]
    exact h.real i hi
  · intro i o ho
    rw [hm] at ho
    split at ho
    · obtain ⟨o', ho', rfl⟩ := Option.map_eq_some_iff.1 ho
      have := h.calm i o' ho'
      cases o' <;> simp_all [Obj.calm]
    · exact h.calm i o ho
  · intro i h1 h2
    rw [hm, hm, h.low i h1 h2]
  · intro i h1 hi
    have hne : i ≠ a.block := fun e => hb (e ▸ hi)
    rw [hm, if_neg hne]
    exact h.old i h1 hi

theorem runT_store_eq (P : Program) (w : World) (a : Addr) (v : Value) (md : Mode) (es : Array Event) (hv : ∀ c, v ≠ .agg c) (hv2 : ∀ c, v ≠ .tuple c) (k : Sem Unit) :
    (Sem.store md a v k).runT P w es = match w.cell? a with
    | some _ =>
      if w.frozen? a then (.halt (.unsupported (.unsafePointer "a write to bytes that a string shares")) w, es)
      else k.runT P (w.setCell a v) (es.push ⟨.cell a, true, md == .atomic⟩)
    | none => match w.farStore P a v (md == Mode.atomic) with
      | .ok (w, touched) => k.runT P w (es ++ touched.toArray.map (⟨.cell ·, true, md == .atomic⟩))
      | .error h => (.halt h w, es) := by
  cases v <;> first | exact absurd rfl (hv _) | exact absurd rfl (hv2 _) | rfl

theorem run_store_eq (P : Program) (w : World) (a : Addr) (v : Value) (md : Mode) (hv : ∀ c, v ≠ .agg c) (hv2 : ∀ c, v ≠ .tuple c) (k : Sem Unit) :
    (Sem.store md a v k).run P w = match w.cell? a with
    | some _ => if w.frozen? a then .halt (.unsupported (.unsafePointer "a write to bytes that a string shares")) w else k.run P (w.setCell a v)
    | none => match w.farStore P a v (md == Mode.atomic) with
      | .ok (w, _) => k.run P w
      | .error h => .halt h w := by
  cases v <;> first | exact absurd rfl (hv _) | exact absurd rfl (hv2 _) | rfl

theorem Lead.store (a : Addr) (v : Value) (md : Mode) : Lead V (Go.store a v md) := by
  intro Bad w1 w2 m es2 hB hS hT
  unfold Go.store
  by_cases hv : (∃ c, v = .agg c) ∨ (∃ c, v = .tuple c)
  · have : ∀ (Q : Program) (w : World), (Sem.store md a v (.pure ())).run Q w = .halt (.stuck "store: not the value of one cell") w := by
      intro Q w
      rcases hv with ⟨c, rfl⟩ | ⟨c, rfl⟩ <;> rfl
    rw [this]
    exact fun h0 => absurd h0 (by simp [Soft])
  have hv1 : ∀ c, v ≠ .agg c := fun c e => hv (.inl ⟨c, e⟩)
  have hv2 : ∀ c, v ≠ .tuple c := fun c e => hv (.inr ⟨c, e⟩)
  rw [run_store_eq V.sh w1 a v md hv1 hv2, runT_store_eq V.re w2 a v md es2 hv1 hv2]
  cases hc : w1.cell? a with
  | some u =>
    have hb := hS.notBad_of_cell hc
    have hc2 : w2.cell? a = some u := (hS.cell hb).trans hc
    simp only [hc2, hS.frozen a]
    cases hf : w1.frozen? a with
    | true => exact fun h0 => absurd h0 (by simp [Soft])
    | false =>
      simp only [Bool.false_eq_true, ↓reduceIte, Sem.run]
      intro _
      refine ⟨w2.setCell a v, #[⟨.cell a, true, md == .atomic⟩], by simp [Sem.runT, -Sem.runT_eq], hS.setCell v hb, by show w2.drawn + w1.drawn = w2.drawn + w1.drawn; rfl, rfl, ?_⟩
      intro e he
      obtain rfl : e = ⟨.cell a, true, md == .atomic⟩ := by simpa using he
      refine ⟨fun x hx hs => ?_, by simp, by simp, ?_⟩
      · have hx' : x = ⟨.cell a, true, if (md == .atomic) = true then .atomic else .plain⟩ := by
          simpa [MemAct.ofEvent, MemAct.touch?] using hx.symm
        subst hx'
        exact absurd hs.2 hb
      · have h1 : a.block < w2.heap.size := block_lt hc2
        have h2 : (w2.setCell a v).heap.size = w2.heap.size := by simp
        rw [h2]
        exact h1
  | none =>
    simp only
    have hno : ∀ (s : String), ¬ Soft (w1.noCell a s) := fun s => by
      unfold World.noCell
      split
      · rename_i heq
        have := hS.calm _ _ heq
        cases this
      · simp [Soft]
      · simp [Soft]
    by_cases hv : ∃ at_ u, w1.heap[a.block]? = some (.view at_ u)
    · obtain ⟨at_, u, ho⟩ := hv
      · rw [farStore_view _ _ ho]
        cases hf : w1.viewStore V.sh at_ u a v (md == Mode.atomic) with
        | error e => exact fun h0 => absurd h0 (by simp [Soft])
        | ok r =>
          obtain ⟨w1', l⟩ := r
          obtain ⟨c, e, f, rfl, h1, h2, h3, h4⟩ := hS.viewStore hf
          have hb : ¬ Bad a.block := fun hb => by
            rw [hS.poison _ hb] at ho
            cases ho
          have ho2 : w2.heap[a.block]? = some (.view at_ u) := by
            rcases hS.same _ hb with e | ⟨cap, buf, cl, tm, s, r, s', r', e1, e2⟩
            · rw [e, ho]
            · rw [e1] at ho
              cases ho
          have hc2 : w2.cell? a = none := (hS.cell hb).trans hc
          simp only [hc2, farStore_view _ _ ho2, h1, Sem.run]
          intro _
          refine ⟨_, (l.map (fun x => (⟨.cell x, true, md == Mode.atomic⟩ : Event))).toArray, ?_, hS.setObj (.cells c e f) h2 rfl, by show w2.drawn + w1.drawn = w2.drawn + w1.drawn; rfl, rfl, ?_⟩
          · simp [Sem.runT, -Sem.runT_eq]
          · intro e' he
            obtain ⟨x, hx, rfl⟩ := List.mem_map.1 (by simpa using he : e' ∈ l.map (fun x => (⟨.cell x, true, md == Mode.atomic⟩ : Event)))
            have e1 := h4 x hx
            exact evL_cell (e1 ▸ h2) (by rw [e1]; simpa using h3)
    · rw [farStore_no _ _ (fun at_ u e => hv ⟨at_, u, e⟩)]
      exact fun h0 => absurd h0 (hno _)

theorem Sh.push {Bad : Nat → Prop} {w1 w2 : World} (h : Sh V Bad w1 w2) (o : Obj) (ho : Obj.calm o = true) : Sh V Bad { w1 with heap := w1.heap.push o } { w2 with heap := w2.heap.push o } := by
  have hlt : ∀ i, Bad i → i < w1.heap.size := fun i hi => (Array.getElem?_eq_some_iff.1 (h.poison i hi)).1
  refine ⟨h.tab, by simp [h.size], ?_, ?_, ?_, h.os, h.output, ?_, fun hs => by simp only [h.exact hs], ?_, ?_⟩
  · intro i hi
    simp only [Array.getElem?_push, h.size]
    split
    · exact .inl rfl
    · exact h.same i hi
  · intro i hi
    have := hlt i hi
    simp only [Array.getElem?_push]
    rw [if_neg (by omega)]
    exact h.poison i hi
  · intro i hi
    have := hlt i hi
    simp only [Array.getElem?_push]
    rw [if_neg (by rw [h.size]; omega)]
    exact h.real i hi
  · intro i o' ho'
    simp only [Array.getElem?_push] at ho'
    split at ho'
    · rw [← Option.some.inj ho']; exact ho
    · exact h.calm i o' ho'
  · intro i h1 h2
    simp only [Array.getElem?_push, h.size]
    split
    · rfl
    · exact h.low i h1 h2
  · intro i h1 hi
    have := hlt i hi
    simp only [Array.getElem?_push]
    rw [if_neg (by rw [h.size]; omega)]
    exact h.old i h1 hi

theorem Lead.newObj (o : Obj) (ho : Obj.calm o = true) : Lead V (Go.newObj o) := by
  intro Bad w1 w2 m es2 hB hS hT
  unfold Go.newObj
  simp only [Sem.run]
  intro _
  refine ⟨{ w2 with heap := w2.heap.push o }, #[], by simp [Sem.runT, hS.size, -Sem.runT_eq], hS.push o ho, by show w2.drawn + w1.drawn = w2.drawn + w1.drawn; rfl, rfl, by simp⟩

theorem evL_obj {Bad : Nat → Prop} {n0 B r : Nat} {wr : Bool} {o : Obj} (hb : ¬ (n0 ≤ r ∧ Bad r)) (hr : r < B) : EvL (BadLoc n0 Bad) B ⟨.obj r, wr, o.isChan⟩ := by
  refine ⟨fun x hx hs => ?_, by simp, by simp, ?_⟩
  · have : x.loc = .obj r ∨ False := by
      cases wr <;> cases hi : o.isChan <;> rw [hi] at hx <;> simp [MemAct.ofEvent, MemAct.touch?] at hx <;> first | (left; rw [← hx]) | cases hx
    rcases this with h | h
    · rw [h] at hs; exact absurd hs hb
    · exact h.elim
  · cases wr <;> cases hi : o.isChan <;> exact hr

theorem evL_objSync {S : Loc → Prop} {B r : Nat} (hr : r < B) : EvL S B ⟨.obj r, false, true⟩ :=
  ⟨fun x hx _ => by
    have : x = ⟨.obj r, false, .atomic⟩ := by simpa [MemAct.ofEvent, MemAct.touch?] using hx.symm
    rw [this]; simp, by simp, by simp, hr⟩
theorem runT_getObj (Q : Program) (w : World) (es : Array Event) (r : Nat) (o : Obj) (hr : w.heap[r]? = some o) (hn : ∀ c e f, o ≠ .cells c e f) : (Go.getObj r).runT Q w es = (.ok o w, es ++ #[⟨.obj r, false, o.isChan⟩]) := by
  simp only [Go.getObj, Sem.runT, hr]
  cases o <;> first | simp [Sem.runT, -Sem.runT_eq] | exact absurd rfl (hn _ _ _)
theorem run_getObj (Q : Program) (w : World) (r : Nat) (o : Obj) (hr : w.heap[r]? = some o) (hn : ∀ c e f, o ≠ .cells c e f) : (Go.getObj r).run Q w = .ok o w := by
  rw [← Sem.runT_fst Q _ w #[], runT_getObj Q w #[] r o hr hn]
/-- The block's object is asked: what follows does not hang on how often a channel has been used, and is at an end at the hollow one. -/
theorem Lead.getObjK {β : Type} {k : Obj → Sem β} (r : Nat) (hk : ∀ cap buf cl tm s r s' r', k (.chan cap buf cl s r tm) = k (.chan cap buf cl s' r' tm))
    (hd : V.ok r ∨ ∀ w, ∃ e w', (k hollow).run V.sh w = .halt e w' ∧ ¬ Soft e) (hl : ∀ o, Obj.calm o = true → Lead (V.add r) (k o)) : Lead V (Go.getObj r >>= k) := by
  intro Bad w1 w2 m es2 hB hS hT
  show Leads V Bad m w1 w2 es2 ((Sem.bind (Go.getObj r) k).run V.sh w1) ((Sem.bind (Go.getObj r) k).runT V.re w2 es2)
  rw [Sem.run_bind' V.sh (Go.getObj r) k w1, Sem.runT_bind' V.re (Go.getObj r) k w2 es2]
  cases hr : w1.heap[r]? with
  | none =>
    have h0 : (Go.getObj r).run V.sh w1 = .halt (.stuck "getObj: no such block") w1 := by
      unfold Go.getObj
      simp only [Sem.run, hr]
    rw [h0]
    simp only [Result.andThen]
    exact fun h0 => absurd h0 (by simp [Soft])
  | some o =>
    by_cases hn : ∃ c e f, o = .cells c e f
    · obtain ⟨c, e, f, rfl⟩ := hn
      have h0 : (Go.getObj r).run V.sh w1 = .halt (.stuck "getObj: a row of cells") w1 := by
        unfold Go.getObj
        simp only [Sem.run, hr]
      rw [h0]
      simp only [Result.andThen]
      exact fun h0 => absurd h0 (by simp [Soft])
    · have hn' : ∀ c e f, o ≠ .cells c e f := fun c e f h => hn ⟨c, e, f, h⟩
      by_cases hb : Bad r
      · have ho : o = hollow := by
          have := hS.poison r hb
          rw [hr] at this
          exact Option.some.inj this
        rw [run_getObj V.sh w1 r o hr hn']
        simp only [Result.andThen]
        rcases hd with hd | hd
        · exact absurd hb (hB r hd)
        · obtain ⟨e, w', h1, h2⟩ := hd w1
          rw [ho, h1]
          exact fun h0 => absurd h0 h2
      have hlt := hS.lt hr
      obtain ⟨o2, hr2, hn2, hk2⟩ : ∃ o2, w2.heap[r]? = some o2 ∧ (∀ c e f, o2 ≠ .cells c e f) ∧ k o2 = k o := by
        rcases hS.same r hb with e | ⟨cap, buf, cl, tm, s, r, s', r', e1, e2⟩
        · exact ⟨o, by rw [e, hr], hn', rfl⟩
        · rw [hr] at e1
          obtain rfl := Option.some.inj e1
          exact ⟨_, e2, (by intros; simp), hk _ _ _ _ _ _ _ _⟩
      rw [run_getObj V.sh w1 r o hr hn', runT_getObj V.re w2 es2 r o2 hr2 hn2]
      simp only [Result.andThen, hk2]
      have h3 := hl o (hS.calm r o hr) Bad w1 w2 m (es2 ++ #[⟨.obj r, false, o2.isChan⟩]) (fun i hi => hi.elim (hB i) (fun e => e ▸ hb)) hS.add hT
      have l3 := later_run V.sh (k o) w1
      have first : Out V Bad w1 w2 w1 w2 #[⟨.obj r, false, o2.isChan⟩] := ⟨hS, by omega, rfl, fun e he => by
        obtain rfl : e = ⟨.obj r, false, o2.isChan⟩ := by simpa using he
        exact evL_obj (fun h => hb h.2) hlt⟩
      cases hx : (k o).run V.sh w1 with
      | ok a v1 =>
        rw [show (k o).run (V.add r).sh w1 = _ from hx] at h3
        rw [hx] at l3
        intro hm
        obtain ⟨v2, n, e1, o1⟩ := h3 hm
        exact ⟨v2, #[⟨.obj r, false, o2.isChan⟩] ++ n, by rw [show (k o).runT V.re w2 _ = _ from e1, Array.append_assoc], first.trans o1.strip l3⟩
      | halt a v1 =>
        rw [show (k o).run (V.add r).sh w1 = _ from hx] at h3
        rw [hx] at l3
        intro hh hm
        obtain ⟨rd, v2, n, e1, o1⟩ := h3 hh hm
        exact ⟨rd, v2, #[⟨.obj r, false, o2.isChan⟩] ++ n, by rw [show (k o).runT V.re w2 _ = _ from e1, Array.append_assoc], first.trans o1.strip l3⟩

theorem Lead.setObj (r : Nat) (o : Obj) (ho : Obj.calm o = true) (hk : V.ok r) : Lead V (Go.setObj r o) := by
  intro Bad w1 w2 m es2 hB hS hT
  unfold Go.setObj
  simp only [Sem.run]
  cases hr : w1.heap[r]? with
  | none => exact fun h0 => absurd h0 (by simp [Soft])
  | some o' =>
    by_cases hn : ∃ c e f, o' = .cells c e f
    · obtain ⟨c, e, f, rfl⟩ := hn
      exact fun h0 => absurd h0 (by simp [Soft])
    · have hn' : ∀ c e f, o' ≠ .cells c e f := fun c e f h => hn ⟨c, e, f, h⟩
      have hb := hB r hk
      obtain ⟨o2, hr2, hn2, hch⟩ : ∃ o2, w2.heap[r]? = some o2 ∧ (∀ c e f, o2 ≠ .cells c e f) ∧ True := by
        rcases hS.same r hb with e | ⟨cap, buf, cl, tm, s, r, s', r', e1, e2⟩
        · exact ⟨o', by rw [e, hr], hn', trivial⟩
        · exact ⟨_, e2, (by intros; simp), trivial⟩
      have g2 : (Sem.setObj r o (Sem.pure ())).runT V.re w2 es2 = (.ok () { w2 with heap := w2.heap.setIfInBounds r o }, es2 ++ #[⟨.obj r, true, o.isChan⟩]) := by
        simp only [Sem.runT, hr2]
        cases o2 <;> first | simp [Sem.runT, -Sem.runT_eq] | exact absurd rfl (hn2 _ _ _)
      rw [g2]
      have g3 : ∃ w2' new, (Result.ok () { w2 with heap := w2.heap.setIfInBounds r o }, es2 ++ #[⟨.obj r, true, o.isChan⟩]) = (Result.ok () w2', es2 ++ new) ∧ Out V Bad w1 w2 { w1 with heap := w1.heap.setIfInBounds r o } w2' new :=
        ⟨_, _, rfl, hS.setObj o hb ho, by show w2.drawn + w1.drawn = w2.drawn + w1.drawn; rfl, rfl, fun e he => by
          obtain rfl : e = ⟨.obj r, true, o.isChan⟩ := by simpa using he
          have := hS.lt hr
          exact evL_obj (fun h => hb h.2) (by simpa using this)⟩
      cases o' <;> first | exact absurd rfl (hn' _ _ _) | exact fun _ => g3

theorem Lead.choose (q : Question) : Lead V (Go.choose q) := by
  intro Bad w1 w2 m es2 hB hS hT
  unfold Go.choose
  simp only [Sem.run, Sem.runT]
  split
  · rename_i hf
    intro _
    exact ⟨w2, #[], by simp [Sem.runT, -Sem.runT_eq], Out.refl hS⟩
  · intro hm
    have hm' : w1.drawn + 1 ≤ w1.drawn + m := hm
    have ht := hT 0 (by omega)
    simp only [Nat.add_zero] at ht
    refine ⟨{ w2 with drawn := w2.drawn + 1 }, #[], by simp [ht, Sem.runT, -Sem.runT_eq], ⟨hS.tab, hS.size, hS.same, hS.poison, hS.real, hS.os, hS.output, hS.calm, hS.exact, hS.low, hS.old⟩, ?_, rfl, by simp⟩
    show w2.drawn + 1 + w1.drawn = w2.drawn + (w1.drawn + 1)
    omega

/-- The program is asked: what follows is the same for both. -/
theorem Lead.program {α : Type} {f : Program → Sem α} (h : f V.sh = f V.re) (hf : Lead V (f V.re)) : Lead V (Go.program >>= f) := by
  intro Bad w1 w2 m es2 hB hS hT
  have := hf Bad w1 w2 m es2 hB hS hT
  rw [← h] at this
  show Leads V Bad m w1 w2 es2 ((Sem.bind Go.program f).run V.sh w1) ((Sem.bind Go.program f).runT V.re w2 es2)
  rw [Sem.run_bind' V.sh Go.program f w1, Sem.runT_bind' V.re Go.program f w2 es2]
  simp only [Go.program, Sem.run, Sem.runT, Result.andThen]
  rw [← h]
  exact this

theorem Lead.mark (mk : Mark) (h1 : (∃ f, mk = .extern f) ∨ mk = .noRoom) : Lead V (Go.mark mk) := by
  intro Bad w1 w2 m es2 hB hS hT
  unfold Go.mark
  simp only [Sem.run]
  intro _
  refine ⟨w2, #[⟨.mark mk, false, true⟩], by simp [Sem.runT, -Sem.runT_eq], hS, by omega, rfl, ?_⟩
  intro e he
  obtain rfl : e = ⟨.mark mk, false, true⟩ := by simpa using he
  rcases h1 with ⟨f, rfl⟩ | rfl
  · exact ⟨fun x hx => (by simp [MemAct.ofEvent, MemAct.touch?] at hx), by simp, by simp, trivial⟩
  · exact ⟨fun x hx => (by simp [MemAct.ofEvent, MemAct.touch?] at hx), by simp, by simp, trivial⟩

theorem Lead.askRoom (n : Nat) : Lead V (Go.askRoom n) := by
  unfold Go.askRoom
  split
  · exact Lead.mark _ (.inr rfl)
  · exact Lead.pure _

theorem Lead.ite {α : Type} {c : Prop} [Decidable c] {x y : Sem α} (hx : Lead V x) (hy : Lead V y) : Lead V (if c then x else y) := by split <;> assumption

theorem Lead.iteH {α : Type} {c : Prop} [Decidable c] {x y : Sem α} (hx : c → Lead V x) (hy : ¬ c → Lead V y) : Lead V (if c then x else y) := by split <;> solve_by_elim

theorem Lead.frozen (a : Addr) : Lead V (Go.frozen a) := by
  intro Bad w1 w2 m es2 hB hS hT
  unfold Go.frozen
  simp only [Sem.run]
  intro _
  exact ⟨w2, #[], by simp [Sem.runT, hS.frozen a, -Sem.runT_eq], Out.refl hS⟩
end
end Go.Proofs.YtnknfolnbhljfaaGreatDoor.Lift
end

section
/- The model's helpers and operations, walked alike (Lead): those that our programs use. -/
namespace Go.Proofs.YtnknfolnbhljfaaGreatDoor.Lift
open Go Go.Conc
set_option linter.unusedSimpArgs false
set_option linter.unusedVariables false
/-- The two programs bear the same tables; a variable's block is never shunned. -/
structure Tab (V : Env) : Prop where
  tables : V.sh.toTables = V.re.toTables
  ok : ∀ i, i < V.re.globals.size → V.ok i
theorem Tab.add {V : Env} (h : Tab V) (r : Nat) : Tab (V.add r) := ⟨h.tables, fun i hi => .inl (h.ok i hi)⟩
section
variable {V : Env}

theorem Lead.getObjH {β : Type} {k : Obj → Sem β} (h : Tab V) (r : Nat) (hk : ∀ cap buf cl tm s r s' r', k (.chan cap buf cl s r tm) = k (.chan cap buf cl s' r' tm))
    (hd : V.ok r ∨ ∀ w, ∃ e w', (k hollow).run V.sh w = .halt e w' ∧ ¬ Soft e) (hl : ∀ o, Obj.calm o = true → Tab (V.add r) → Lead (V.add r) (k o)) : Lead V (Go.getObj r >>= k) :=
  Lead.getObjK r hk hd fun o ho => hl o ho (h.add r)
theorem Lead.stuck {α : Type} (why : String) : Lead V (Go.stuck why : Sem α) := Lead.soft _
def isInit : Unsupported → Bool
  | .initOrder _ => true
  | _ => false
theorem Lead.unsupported {α : Type} (u : Unsupported) (hu : isInit u = false := by with_unfolding_all rfl) : Lead V (Go.unsupported u : Sem α) := Lead.soft _ (by cases u <;> first | trivial | cases hu)
theorem Lead.goPanic {α : Type} (v : Value) : Lead V (Go.goPanic v : Sem α) := Lead.soft _

theorem Lead.typeInfo (h : Tab V) (t : TypeId) : Lead V (Go.typeInfo t) := by
  unfold Go.typeInfo
  refine Lead.program (by simp only [tables_info h.tables]) ?_
  split
  · exact Lead.pure _
  · exact Lead.stuck _
theorem Lead.underlying (h : Tab V) (t : TypeId) : Lead V (Go.underlying t) := by
  unfold Go.underlying
  refine Lead.program (by simp only [tables_under h.tables]) ?_
  split
  · exact Lead.pure _
  · exact Lead.stuck _
theorem Lead.zeroValue (h : Tab V) (t : TypeId) : Lead V (Go.zeroValue t) := by
  unfold Go.zeroValue
  refine Lead.bind (Lead.typeInfo h t) fun i => ?_
  split
  · exact Lead.pure _
  · exact Lead.unsupported _
theorem Lead.sizeOf (h : Tab V) (t : TypeId) : Lead V (Go.sizeOf t) := Lead.bind (Lead.typeInfo h t) fun _ => Lead.pure _
theorem Lead.isAgg (h : Tab V) (t : TypeId) : Lead V (Go.isAgg t) := by
  unfold Go.isAgg
  refine Lead.bind (Lead.underlying h t) fun d => ?_
  split <;> exact Lead.pure _
theorem Lead.loadCellsFrom (a : Addr) : ∀ (n i : Nat) (acc : Array Value), Lead V (Go.loadCellsFrom a i n acc)
  | 0, _, _ => Lead.pure _
  | n + 1, i, acc => by
    unfold Go.loadCellsFrom
    exact Lead.bind (Lead.load _ _) fun v => Lead.loadCellsFrom a n _ _
theorem Lead.loadCells (a : Addr) (n : Nat) : Lead V (Go.loadCells a n) := Lead.loadCellsFrom a n 0 #[]
theorem Lead.storeCells (a : Addr) : ∀ (vs : List Value) (i : Nat), Lead V (Go.storeCells a vs i)
  | [], _ => Lead.pure _
  | v :: vs, i => by
    unfold Go.storeCells
    exact Lead.bind (Lead.store _ _ _) fun _ => Lead.storeCells a vs _
theorem Lead.loadVar (h : Tab V) (t : TypeId) (a : Addr) : Lead V (Go.loadVar t a) := by
  unfold Go.loadVar
  refine Lead.bind (Lead.isAgg h t) fun b => Lead.ite (Lead.bind (Lead.sizeOf h t) fun n => Lead.bind (Lead.loadCells a n) fun _ => Lead.pure _) (Lead.load _ _)
theorem Lead.storeVar (h : Tab V) (t : TypeId) (a : Addr) (v : Value) : Lead V (Go.storeVar t a v) := by
  unfold Go.storeVar
  refine Lead.bind (Lead.sizeOf h t) fun n => ?_
  split
  · exact Lead.bind (Lead.stuck _) fun _ => Lead.storeCells a _ 0
  · exact Lead.storeCells a _ 0
theorem Lead.newRow (t : TypeId) (c : Array Value) : Lead V (Go.newRow t c) := Lead.bind (Lead.newObj _ rfl) fun _ => Lead.pure _
theorem Lead.newVar (t : TypeId) (v : Value) : Lead V (Go.newVar t v) := Lead.newRow _ _
theorem Lead.elemOf (h : Tab V) (t : TypeId) : Lead V (Go.elemOf t) := by
  unfold Go.elemOf
  refine Lead.bind (Lead.underlying h t) fun d => ?_
  split
  · exact Lead.pure _
  · exact Lead.stuck _
theorem Lead.part (h : Tab V) (t : TypeId) (cs : Array Value) (off : Nat) : Lead V (Go.part t cs off) := by
  unfold Go.part
  refine Lead.bind (Lead.isAgg h t) fun b => Lead.ite (Lead.bind (Lead.sizeOf h t) fun _ => Lead.pure _) ?_
  split
  · exact Lead.pure _
  · exact Lead.stuck _
theorem Lead.runtimePanic {α : Type} (h : Tab V) (e : RuntimeError) : Lead V (Go.runtimePanic e : Sem α) := by
  unfold Go.runtimePanic
  refine Lead.program ?_ ?_
  · have hh : typeHandle V.sh = typeHandle V.re := funext fun t => by unfold typeHandle; rw [h.tables]
    dsimp only
    rw [h.tables, hh]
  · cases e <;> first
      | exact Lead.goPanic _
      | exact Lead.bind (Lead.elemOf h _) fun _ => Lead.bind (Lead.newVar _ _) fun _ => Lead.goPanic _
theorem Lead.boundsPanic {α : Type} (h : Tab V) (k : IntKind) (x y : Int) (c : BoundsCode) : Lead V (Go.boundsPanic k x y c : Sem α) := by
  unfold Go.boundsPanic
  dsimp only
  split
  · exact Lead.bind (Lead.map (Lead.choose _)) fun _ => Lead.runtimePanic h _
  · exact Lead.bind (Lead.pure _) fun _ => Lead.runtimePanic h _
theorem Lead.asIntOf (v : Value) : Lead V (Go.asIntOf v) := by
  unfold Go.asIntOf
  split
  · exact Lead.pure _
  · exact Lead.unsupported _
  · exact Lead.stuck _
theorem Lead.asInt (v : Value) : Lead V (Go.asInt v) := Lead.bind (Lead.asIntOf v) fun _ => Lead.pure _
theorem Lead.asBool (v : Value) : Lead V (Go.asBool v) := by
  unfold Go.asBool
  split
  · exact Lead.pure _
  · exact Lead.stuck _
theorem Lead.asString (v : Value) : Lead V (Go.asString v) := by
  unfold Go.asString
  split
  · exact Lead.pure _
  · exact Lead.stuck _
theorem Lead.asAgg (v : Value) : Lead V (Go.asAgg v) := by
  unfold Go.asAgg
  split
  · exact Lead.pure _
  · exact Lead.stuck _
theorem Lead.asAddr (h : Tab V) (v : Value) : Lead V (Go.asAddr v) := by
  unfold Go.asAddr
  split
  · exact Lead.pure _
  · exact Lead.runtimePanic h _
  · exact Lead.stuck _
theorem Lead.sureAddr (v : Value) : Lead V (Instr.sureAddr v) := by
  unfold Instr.sureAddr
  split
  · exact Lead.pure _
  · exact Lead.stuck _
theorem Lead.forInList {α β : Type} (f : α → β → Sem (ForInStep β)) (hf : ∀ a b, Lead V (f a b)) : ∀ (l : List α) (b : β), Lead V (forIn l b f)
  | [], b => by rw [List.forIn_nil]; exact Lead.pure _
  | x :: l, b => by
    rw [List.forIn_cons]
    refine Lead.bind (hf x b) fun r => ?_
    cases r with
    | done b => exact Lead.pure _
    | yield b => exact Lead.forInList f hf l b
theorem Lead.forInArray {α β : Type} (f : α → β → Sem (ForInStep β)) (hf : ∀ a b, Lead V (f a b)) (l : Array α) (b : β) : Lead V (forIn l b f) := by
  rw [← Array.forIn_toList]
  exact Lead.forInList f hf _ _
theorem Lead.forInRange {β : Type} (f : Nat → β → Sem (ForInStep β)) (hf : ∀ a b, Lead V (f a b)) (r : Std.Legacy.Range) (b : β) : Lead V (forIn r b f) := by
  rw [Std.Legacy.Range.forIn_eq_forIn_range']
  exact Lead.forInList f hf _ _
theorem Lead.foldlM {α β : Type} (f : β → α → Sem β) (hf : ∀ b a, Lead V (f b a)) : ∀ (l : List α) (b : β), Lead V (l.foldlM f b)
  | [], b => Lead.pure _
  | x :: l, b => Lead.bind (hf b x) fun b => Lead.foldlM f hf l b
theorem Lead.mapList {α β : Type} (f : α → Sem β) (hf : ∀ a, Lead V (f a)) : ∀ (l : List α), Lead V (l.mapM f)
  | [] => Lead.pure _
  | x :: l => by
    rw [List.mapM_cons]
    exact Lead.bind (hf x) fun _ => Lead.bind (Lead.mapList f hf l) fun _ => Lead.pure _
theorem Lead.mapArray {α β : Type} (f : α → Sem β) (hf : ∀ a, Lead V (f a)) (l : Array α) : Lead V (l.mapM f) := by
  rw [Array.mapM_eq_mapM_toList]
  exact Lead.map (Lead.mapList f hf _)

/-- A run that gives a hard halt in the shadow, whatever the world. -/
theorem Lead.dead {α : Type} {s : Sem α} (hs : ∀ w, ∃ e w', s.run V.sh w = .halt e w' ∧ ¬ Soft e) : Lead V s := by
  intro Bad w1 w2 m es2 hB hS hT
  obtain ⟨e, w', h1, h2⟩ := hs w1
  rw [h1]
  exact fun h0 => absurd h0 h2
theorem Sh.shapeSome {Bad : Nat → Prop} {w1 w2 : World} (h : Sh V Bad w1 w2) {r : Nat} (hb : ¬ Bad r) : w2.shape? r = w1.shape? r := by
  unfold World.shape?
  rcases h.same r hb with e | ⟨cap, buf, cl, tm, s, r, s', r', e1, e2⟩
  · rw [e]
  · rw [e1, e2]
theorem Lead.peek {β : Type} (k : Obj → Sem (Option β)) (g : Obj → Option β) (hk : ∀ o, k o = Pure.pure (g o)) (hgc : ∀ o, Obj.calm o = false → g o = none) (hg : ∀ cap buf cl tm s r s' r', g (.chan cap buf cl s r tm) = g (.chan cap buf cl s' r' tm)) (hgn : ∀ cap buf cl s r tm, g (.chan cap buf cl s r tm) = none) (hg0 : g hollow = none) (r : Nat) :
    Lead V (Go.shape r >>= fun s => if s.isSome = true then Pure.pure none else Go.getObj r >>= k) := by
  intro Bad w1 w2 m es2 hB hS hT
  have key : ∀ (Q : Program) (w : World) (es : Array Event) (o : Obj), w.heap[r]? = some o → ∃ new, (Go.shape r >>= fun s => if s.isSome = true then Pure.pure none else Go.getObj r >>= k).runT Q w es = (.ok (if (w.shape? r).isSome = true then none else g o) w, es ++ new) ∧ ∀ e ∈ new, (w.shape? r = none ∧ e = ⟨.obj r, false, o.isChan⟩) := by
    intro Q w es o ho
    show ∃ new, ((Sem.bind (Go.shape r) _).runT Q w es) = _ ∧ _
    rw [Sem.runT_bind' Q (Go.shape r) _ w es]
    simp only [Go.shape, Sem.runT]
    cases hsh : w.shape? r with
    | some x => exact ⟨#[], by simp [Pure.pure, Sem.runT, -Sem.runT_eq], by simp⟩
    | none =>
      simp only [Option.isSome_none, Bool.false_eq_true, ↓reduceIte]
      refine ⟨#[⟨.obj r, false, o.isChan⟩], ?_, fun e he => ⟨by first | trivial | rfl | exact hsh, by simpa using he⟩⟩
      show (Sem.bind (Go.getObj r) k).runT Q w es = _
      rw [Sem.runT_bind' Q (Go.getObj r) k w es]
      have hno : ∀ c e f, o ≠ .cells c e f := by
        rintro c e f rfl
        unfold World.shape? at hsh
        rw [ho] at hsh
        cases hsh
      rw [runT_getObj Q w es r o ho hno]
      dsimp only
      rw [hk o]
      simp [Pure.pure, Sem.runT, -Sem.runT_eq]
  have keyR : ∀ (Q : Program) (w : World) (o : Obj), w.heap[r]? = some o → (Go.shape r >>= fun s => if s.isSome = true then Pure.pure none else Go.getObj r >>= k).run Q w = .ok (if (w.shape? r).isSome = true then none else g o) w := by
    intro Q w o ho
    obtain ⟨new, h1, _⟩ := key Q w #[] o ho
    rw [← Sem.runT_fst Q _ w #[], h1]
  cases hr : w1.heap[r]? with
  | none =>
    have hrun : (Go.shape r >>= fun s => if s.isSome = true then Pure.pure none else Go.getObj r >>= k).run V.sh w1 = .halt (.stuck "getObj: no such block") w1 := by
      have hsh : w1.shape? r = none := by unfold World.shape?; rw [hr]
      show (Sem.bind (Go.shape r) _).run V.sh w1 = _
      rw [Sem.run_bind' V.sh (Go.shape r) _ w1]
      simp only [Go.shape, Sem.run, Result.andThen, hsh, Option.isSome_none, Bool.false_eq_true, ↓reduceIte]
      show (Sem.bind (Go.getObj r) k).run V.sh w1 = _
      rw [Sem.run_bind' V.sh (Go.getObj r) k w1]
      simp only [Go.getObj, Sem.run, hr, Result.andThen]
    rw [hrun]
    exact fun h0 => absurd h0 (by simp [Soft])
  | some o =>
    rw [keyR V.sh w1 o hr]
    intro _
    by_cases hb : Bad r
    · have hlt : r < w2.heap.size := hS.lt hr
      have ho : o = hollow := by
        have := hS.poison r hb
        rw [hr] at this
        exact Option.some.inj this
      have s1 : (if (w1.shape? r).isSome = true then none else g o) = none := by
        rw [ho, hg0]
        split <;> rfl
      rw [s1]
      rcases hS.real r hb with ⟨_, o2, h2, ⟨c, e2, rfl⟩ | ⟨cap, buf, cl, s, r2, tm, rfl⟩⟩ | ⟨hn0, o2, h2, hcal⟩
      · obtain ⟨new, h3, h4⟩ := key V.re w2 es2 _ h2
        have s2 : (w2.shape? r).isSome = true := by unfold World.shape?; rw [h2]; rfl
        rw [if_pos s2] at h3
        refine ⟨w2, new, h3, hS, by omega, rfl, fun e he => ?_⟩
        obtain ⟨a1, _⟩ := h4 e he
        rw [a1] at s2
        cases s2
      · obtain ⟨new, h3, h4⟩ := key V.re w2 es2 _ h2
        rw [hgn, ite_self] at h3
        refine ⟨w2, new, h3, hS, by omega, rfl, fun e he => ?_⟩
        obtain ⟨_, rfl⟩ := h4 e he
        exact evL_objSync hlt
      · obtain ⟨new, h3, h4⟩ := key V.re w2 es2 o2 h2
        rw [hgc o2 hcal, ite_self] at h3
        refine ⟨w2, new, h3, hS, by omega, rfl, fun e he => ?_⟩
        obtain ⟨_, rfl⟩ := h4 e he
        exact evL_obj (fun h => by omega) hlt
    · obtain ⟨o2, h2, hc2, hge⟩ : ∃ o2, w2.heap[r]? = some o2 ∧ Obj.calm o2 = true ∧ g o2 = g o := by
        rcases hS.same r hb with e | ⟨cap, buf, cl, tm, s, r, s', r', e1, e2⟩
        · exact ⟨o, by rw [e, hr], hS.calm r o hr, rfl⟩
        · rw [hr] at e1
          obtain rfl := Option.some.inj e1
          exact ⟨_, e2, rfl, hg _ _ _ _ _ _ _ _⟩
      obtain ⟨new, h3, h4⟩ := key V.re w2 es2 o2 h2
      rw [hS.shapeSome hb, hge] at h3
      refine ⟨w2, new, h3, hS, by omega, rfl, fun e he => ?_⟩
      obtain ⟨_, rfl⟩ := h4 e he
      exact evL_obj (fun h => hb h.2) (hS.lt hr)
theorem Lead.viewAt (r : Nat) : Lead V (Go.viewAt r) :=
  Lead.peek _ (fun o => match o with | .view a t => some (a, t) | _ => none) (fun o => by cases o <;> rfl) (fun o ho => by cases o <;> first | rfl | cases ho) (by intros; rfl) (by intros; rfl) rfl r
theorem Lead.numberAt (r : Nat) : Lead V (Go.numberAt r) :=
  Lead.peek _ (fun o => match o with | .number a lost => some (a, lost) | _ => none) (fun o => by cases o <;> rfl) (fun o ho => by cases o <;> first | rfl | cases ho) (by intros; rfl) (by intros; rfl) rfl r
theorem Lead.noView (a : Addr) : Lead V (Go.noView a) := by
  unfold Go.noView
  exact Lead.bind (Lead.viewAt _) fun _ => Lead.ite (Lead.unsupported _) (Lead.pure _)
theorem Lead.behindNumber (a : Addr) : Lead V (Go.behindNumber a) := Lead.bind (Lead.numberAt _) fun _ => Lead.pure _
def strW (w : World) (a : Addr) : Bool := w.frozen? a || (match w.shape? a.block with | some (_, n) => w.frozen? { block := a.block, off := n } | none => false)
def voidW (w : World) (a : Addr) : Bool := match w.shape? a.block with | some (_, 0) => true | _ => false
theorem strW_run (Q : Program) (w : World) (es : Array Event) (a : Addr) : (Go.stringish a).runT Q w es = (.ok (strW w a) w, es) := by
  unfold Go.stringish strW
  show (Sem.bind (Go.frozen a) _).runT Q w es = _
  rw [Sem.runT_bind' Q (Go.frozen a) _ w es]
  simp only [Go.frozen, Sem.runT]
  cases hf : w.frozen? a with
  | true => simp [Pure.pure, Sem.runT, -Sem.runT_eq]
  | false =>
    simp only [Bool.false_eq_true, ↓reduceIte, Bool.false_or]
    show (Sem.bind (Go.shape a.block) _).runT Q w es = _
    rw [Sem.runT_bind' Q (Go.shape a.block) _ w es]
    simp only [Go.shape, Sem.runT]
    cases w.shape? a.block with
    | none => simp [Pure.pure, Sem.runT, -Sem.runT_eq]
    | some x => simp [Sem.runT, -Sem.runT_eq]
theorem mayBeOne_run (Q : Program) (w : World) (es : Array Event) (a b : Addr) : (Go.mayBeOne a b).runT Q w es = (.ok ((strW w a && strW w b) || (strW w a && voidW w a) || (strW w b && voidW w b)) w, es) := by
  have hv : ∀ (x : Addr) (es : Array Event), ((Go.shape x.block >>= fun s => (Pure.pure (match s with | some (_, 0) => true | _ => false) : Sem Bool))).runT Q w es = (.ok (voidW w x) w, es) := by
    intro x es
    show (Sem.bind (Go.shape x.block) _).runT Q w es = _
    rw [Sem.runT_bind' Q (Go.shape x.block) _ w es]
    simp only [Go.shape, Sem.runT, voidW]
    simp [Pure.pure, Sem.runT, -Sem.runT_eq]
  unfold Go.mayBeOne
  dsimp only
  show (Sem.bind (Go.stringish a) _).runT Q w es = _
  rw [Sem.runT_bind' Q (Go.stringish a) _ w es, strW_run]
  dsimp only
  show (Sem.bind (Go.stringish b) _).runT Q w es = _
  rw [Sem.runT_bind' Q (Go.stringish b) _ w es, strW_run]
  dsimp only
  show (Sem.bind (Go.shape a.block >>= fun s => (Pure.pure (match s with | some (_, 0) => true | _ => false) : Sem Bool)) _).runT Q w es = _
  rw [Sem.runT_bind' Q _ _ w es, hv a]
  dsimp only
  show (Sem.bind (Go.shape b.block >>= fun s => (Pure.pure (match s with | some (_, 0) => true | _ => false) : Sem Bool)) _).runT Q w es = _
  rw [Sem.runT_bind' Q _ _ w es, hv b]
  dsimp only
  simp [Pure.pure, Sem.runT, -Sem.runT_eq]
theorem Sh.str {Bad : Nat → Prop} {w1 w2 : World} (h : Sh V Bad w1 w2) (a : Addr) : strW w2 a = strW w1 a := by
  unfold strW
  rw [h.frozen a]
  by_cases hb : Bad a.block
  · have f1 : ∀ n, w1.frozen? { block := a.block, off := n } = false := fun n => by
      unfold World.frozen?
      simp only [h.poison _ hb]
      simp [hollow]
    have f2 : ∀ n, w2.frozen? { block := a.block, off := n } = false := fun n => by rw [h.frozen]; exact f1 n
    congr 1
    cases w2.shape? a.block <;> cases w1.shape? a.block <;> simp [f1, f2]
  · rw [h.shapeSome hb]
    congr 1
    cases w1.shape? a.block with
    | none => rfl
    | some x => exact h.frozen _
theorem Sh.strBad {Bad : Nat → Prop} {w1 w2 : World} (h : Sh V Bad w1 w2) {a : Addr} (hb : Bad a.block) : strW w1 a = false := by
  have f1 : ∀ n s, w1.frozen? { block := a.block, off := n, spot := s } = false := fun n s => by
    unfold World.frozen?
    simp only [h.poison _ hb]
    simp [hollow]
  unfold strW
  rw [show w1.frozen? a = false from f1 _ _, Bool.false_or]
  cases w1.shape? a.block with
  | none => rfl
  | some x => exact f1 _ _
theorem Lead.mayBeOne (a b : Addr) : Lead V (Go.mayBeOne a b) := by
  intro Bad w1 w2 m es2 hB hS hT
  rw [← Sem.runT_fst V.sh _ w1 #[], mayBeOne_run, mayBeOne_run]
  intro _
  refine ⟨w2, #[], ?_, Out.refl hS⟩
  have hv : ∀ x : Addr, (strW w1 x && voidW w2 x) = (strW w1 x && voidW w1 x) := fun x => by
    by_cases hb : Bad x.block
    · rw [hS.strBad hb]; rfl
    · unfold voidW
      rw [hS.shapeSome hb]
  rw [hS.str a, hS.str b, hv a, hv b]
  simp
theorem Lead.sameAddr (a b : Addr) : Lead V (Go.sameAddr a b) := by
  unfold Go.sameAddr
  repeat' first
    | with_reducible exact Lead.pure _
    | with_reducible exact Lead.unsupported _
    | with_reducible exact Lead.frozen _
    | with_reducible exact Lead.noView _
    | with_reducible exact Lead.mayBeOne _ _
    | with_reducible exact Lead.choose _
    | with_reducible refine Lead.bind ?_ (fun _ => ?_)
    | with_reducible refine Lead.map ?_
    | split
    | dsimp only
theorem Lead.samePointer (a b : Option Addr) : Lead V (Go.samePointer a b) := by
  unfold Go.samePointer
  split
  · exact Lead.sameAddr _ _
  · exact Lead.pure _
end
end Go.Proofs.YtnknfolnbhljfaaGreatDoor.Lift
namespace Go.Proofs.YtnknfolnbhljfaaGreatDoor.Lift
open Go Go.Conc
set_option linter.unusedSimpArgs false
section
variable {V : Env}
theorem Lead.shapeAt (r : Nat) (hr : V.ok r) : Lead V (Go.shape r) := by
  intro Bad w1 w2 m es2 hB hS hT
  have hb : ¬ Bad r := hB r hr
  unfold Go.shape
  simp only [Sem.run]
  intro _
  exact ⟨w2, #[], by simp [Sem.runT, hS.shapeSome hb, -Sem.runT_eq], Out.refl hS⟩
theorem Lead.byteOf (h : Tab V) (a : Addr) (ha : V.ok a.block) : Lead V (Go.byteOf a) := by
  unfold Go.byteOf
  split
  · exact Lead.pure _
  · refine Lead.program (by simp only [tables_cellsOf h.tables, tables_bytesOf h.tables, tables_byteOfCell h.tables, tables_depth h.tables]) ?_
    refine Lead.bind (Lead.noView _) fun _ => Lead.bind (Lead.shapeAt _ ha) fun _ => ?_
    split
    · dsimp only
      split
      · exact Lead.pure _
      · split
        · exact Lead.pure _
        · exact Lead.stuck _
    · exact Lead.stuck _
theorem Lead.byteOfG (h : Tab V) (a : Addr) (ha : a.block < V.re.globals.size) : Lead V (Go.byteOf a) := Lead.byteOf h a (h.ok _ ha)
end
end Go.Proofs.YtnknfolnbhljfaaGreatDoor.Lift
end

section
/- The model's operations, walked alike (Lead); printed by a program of mine (gen_ops2.py). -/
namespace Go.Proofs.YtnknfolnbhljfaaGreatDoor.Lift
open Go Go.Conc
set_option linter.unusedVariables false
set_option linter.unusedSimpArgs false
section
variable {V : Env}
theorem Lead.typeStr (h : Tab V) (t : TypeId) : Lead V (Go.typeStr t) := by
    unfold Go.typeStr
    repeat' first
      | (with_reducible refine Lead.getObjH h _ ?gk_ (.inr ?gd_) (fun _ _ h => ?_); (case gk_ => intros; rfl); (case gd_ => intro w_; refine ⟨_, _, rfl, ?_⟩; simp [Soft]))
      | (with_reducible refine Lead.forInArray _ ?_ _ _; intro _ _)
      | (with_reducible refine Lead.forInRange _ ?_ _ _; intro _ _)
      | (with_reducible refine Lead.forInList _ ?_ _ _; intro _ _)
      | (with_reducible refine Lead.mapArray _ ?_ _; intro _)
      | (with_reducible refine Lead.foldlM _ ?_ _ _; intro _ _)
      | with_reducible assumption
      | with_reducible exact Lead.pure _
      | with_reducible exact Lead.stuck _
      | with_reducible exact Lead.unsupported _
      | with_reducible exact Lead.goPanic _
      | with_reducible exact Lead.typeInfo h _
      | with_reducible refine Lead.bind ?_ (fun _ => ?_)
      | with_reducible refine Lead.map ?_
      | with_reducible refine Lead.iteH (fun _ => ?_) (fun _ => ?_)
      | split
      | dsimp only

theorem Lead.loadAt (h : Tab V) (t : TypeId) (a : Value) : Lead V (Instr.loadAt t a) := by
    unfold Instr.loadAt
    repeat' first
      | (with_reducible refine Lead.getObjH h _ ?gk_ (.inr ?gd_) (fun _ _ h => ?_); (case gk_ => intros; rfl); (case gd_ => intro w_; refine ⟨_, _, rfl, ?_⟩; simp [Soft]))
      | (with_reducible refine Lead.forInArray _ ?_ _ _; intro _ _)
      | (with_reducible refine Lead.forInRange _ ?_ _ _; intro _ _)
      | (with_reducible refine Lead.forInList _ ?_ _ _; intro _ _)
      | (with_reducible refine Lead.mapArray _ ?_ _; intro _)
      | (with_reducible refine Lead.foldlM _ ?_ _ _; intro _ _)
      | with_reducible assumption
      | with_reducible exact Lead.pure _
      | with_reducible exact Lead.stuck _
      | with_reducible exact Lead.unsupported _
      | with_reducible exact Lead.goPanic _
      | with_reducible exact Lead.loadVar h _ _
      | with_reducible exact Lead.sureAddr _
      | with_reducible refine Lead.bind ?_ (fun _ => ?_)
      | with_reducible refine Lead.map ?_
      | with_reducible refine Lead.iteH (fun _ => ?_) (fun _ => ?_)
      | split
      | dsimp only

theorem Lead.storeAt (h : Tab V) (t : TypeId) (a v : Value) : Lead V (Instr.storeAt t a v) := by
    unfold Instr.storeAt
    repeat' first
      | (with_reducible refine Lead.getObjH h _ ?gk_ (.inr ?gd_) (fun _ _ h => ?_); (case gk_ => intros; rfl); (case gd_ => intro w_; refine ⟨_, _, rfl, ?_⟩; simp [Soft]))
      | (with_reducible refine Lead.forInArray _ ?_ _ _; intro _ _)
      | (with_reducible refine Lead.forInRange _ ?_ _ _; intro _ _)
      | (with_reducible refine Lead.forInList _ ?_ _ _; intro _ _)
      | (with_reducible refine Lead.mapArray _ ?_ _; intro _)
      | (with_reducible refine Lead.foldlM _ ?_ _ _; intro _ _)
      | with_reducible assumption
      | with_reducible exact Lead.pure _
      | with_reducible exact Lead.stuck _
      | with_reducible exact Lead.unsupported _
      | with_reducible exact Lead.goPanic _
      | with_reducible exact Lead.storeVar h _ _ _
      | with_reducible exact Lead.sureAddr _
      | with_reducible refine Lead.bind ?_ (fun _ => ?_)
      | with_reducible refine Lead.map ?_
      | with_reducible refine Lead.iteH (fun _ => ?_) (fun _ => ?_)
      | split
      | dsimp only

theorem Lead.alloc (h : Tab V) (t : TypeId) (b : Bool) (v : Value) : Lead V (Instr.alloc t b v) := by
    unfold Instr.alloc
    repeat' first
      | (with_reducible refine Lead.getObjH h _ ?gk_ (.inr ?gd_) (fun _ _ h => ?_); (case gk_ => intros; rfl); (case gd_ => intro w_; refine ⟨_, _, rfl, ?_⟩; simp [Soft]))
      | (with_reducible refine Lead.forInArray _ ?_ _ _; intro _ _)
      | (with_reducible refine Lead.forInRange _ ?_ _ _; intro _ _)
      | (with_reducible refine Lead.forInList _ ?_ _ _; intro _ _)
      | (with_reducible refine Lead.mapArray _ ?_ _; intro _)
      | (with_reducible refine Lead.foldlM _ ?_ _ _; intro _ _)
      | with_reducible assumption
      | with_reducible exact Lead.pure _
      | with_reducible exact Lead.stuck _
      | with_reducible exact Lead.unsupported _
      | with_reducible exact Lead.goPanic _
      | with_reducible exact Lead.zeroValue h _
      | with_reducible exact Lead.storeVar h _ _ _
      | with_reducible exact Lead.newVar _ _
      | with_reducible refine Lead.bind ?_ (fun _ => ?_)
      | with_reducible refine Lead.map ?_
      | with_reducible refine Lead.iteH (fun _ => ?_) (fun _ => ?_)
      | split
      | dsimp only

theorem Lead.box (h : Tab V) (t : TypeId) (v : Value) : Lead V (Instr.box t v) := by
    unfold Instr.box
    repeat' first
      | (with_reducible refine Lead.getObjH h _ ?gk_ (.inr ?gd_) (fun _ _ h => ?_); (case gk_ => intros; rfl); (case gd_ => intro w_; refine ⟨_, _, rfl, ?_⟩; simp [Soft]))
      | (with_reducible refine Lead.forInArray _ ?_ _ _; intro _ _)
      | (with_reducible refine Lead.forInRange _ ?_ _ _; intro _ _)
      | (with_reducible refine Lead.forInList _ ?_ _ _; intro _ _)
      | (with_reducible refine Lead.mapArray _ ?_ _; intro _)
      | (with_reducible refine Lead.foldlM _ ?_ _ _; intro _ _)
      | with_reducible assumption
      | with_reducible exact Lead.pure _
      | with_reducible exact Lead.stuck _
      | with_reducible exact Lead.unsupported _
      | with_reducible exact Lead.goPanic _
      | with_reducible exact Lead.newVar _ _
      | with_reducible refine Lead.bind ?_ (fun _ => ?_)
      | with_reducible refine Lead.map ?_
      | with_reducible refine Lead.iteH (fun _ => ?_) (fun _ => ?_)
      | split
      | dsimp only

theorem Lead.field (h : Tab V) (t : TypeId) (v : Value) (f : Nat) : Lead V (Instr.field t v f) := by
    unfold Instr.field
    repeat' first
      | (with_reducible refine Lead.getObjH h _ ?gk_ (.inr ?gd_) (fun _ _ h => ?_); (case gk_ => intros; rfl); (case gd_ => intro w_; refine ⟨_, _, rfl, ?_⟩; simp [Soft]))
      | (with_reducible refine Lead.forInArray _ ?_ _ _; intro _ _)
      | (with_reducible refine Lead.forInRange _ ?_ _ _; intro _ _)
      | (with_reducible refine Lead.forInList _ ?_ _ _; intro _ _)
      | (with_reducible refine Lead.mapArray _ ?_ _; intro _)
      | (with_reducible refine Lead.foldlM _ ?_ _ _; intro _ _)
      | with_reducible assumption
      | with_reducible exact Lead.pure _
      | with_reducible exact Lead.stuck _
      | with_reducible exact Lead.unsupported _
      | with_reducible exact Lead.goPanic _
      | with_reducible exact Lead.underlying h _
      | with_reducible exact Lead.part h _ _ _
      | with_reducible exact Lead.asInt _
      | with_reducible exact Lead.asAgg _
      | with_reducible exact Lead.load _ _
      | with_reducible refine Lead.bind ?_ (fun _ => ?_)
      | with_reducible refine Lead.map ?_
      | with_reducible refine Lead.iteH (fun _ => ?_) (fun _ => ?_)
      | split
      | dsimp only

theorem Lead.index (h : Tab V) (t : TypeId) (v i : Value) : Lead V (Instr.index t v i) := by
    unfold Instr.index
    repeat' first
      | (with_reducible refine Lead.getObjH h _ ?gk_ (.inr ?gd_) (fun _ _ h => ?_); (case gk_ => intros; rfl); (case gd_ => intro w_; refine ⟨_, _, rfl, ?_⟩; simp [Soft]))
      | (with_reducible refine Lead.forInArray _ ?_ _ _; intro _ _)
      | (with_reducible refine Lead.forInRange _ ?_ _ _; intro _ _)
      | (with_reducible refine Lead.forInList _ ?_ _ _; intro _ _)
      | (with_reducible refine Lead.mapArray _ ?_ _; intro _)
      | (with_reducible refine Lead.foldlM _ ?_ _ _; intro _ _)
      | with_reducible assumption
      | with_reducible exact Lead.pure _
      | with_reducible exact Lead.stuck _
      | with_reducible exact Lead.unsupported _
      | with_reducible exact Lead.goPanic _
      | with_reducible exact Lead.boundsPanic h _ _ _ _
      | with_reducible exact Lead.underlying h _
      | with_reducible exact Lead.sizeOf h _
      | with_reducible exact Lead.part h _ _ _
      | with_reducible exact Lead.asIntOf _
      | with_reducible exact Lead.asInt _
      | with_reducible exact Lead.load _ _
      | with_reducible refine Lead.bind ?_ (fun _ => ?_)
      | with_reducible refine Lead.map ?_
      | with_reducible refine Lead.iteH (fun _ => ?_) (fun _ => ?_)
      | split
      | dsimp only

theorem Lead.indexAt (h : Tab V) (t : TypeId) (v i : Value) : Lead V (Instr.indexAt t v i) := by
    unfold Instr.indexAt
    repeat' first
      | (with_reducible refine Lead.getObjH h _ ?gk_ (.inr ?gd_) (fun _ _ h => ?_); (case gk_ => intros; rfl); (case gd_ => intro w_; refine ⟨_, _, rfl, ?_⟩; simp [Soft]))
      | (with_reducible refine Lead.forInArray _ ?_ _ _; intro _ _)
      | (with_reducible refine Lead.forInRange _ ?_ _ _; intro _ _)
      | (with_reducible refine Lead.forInList _ ?_ _ _; intro _ _)
      | (with_reducible refine Lead.mapArray _ ?_ _; intro _)
      | (with_reducible refine Lead.foldlM _ ?_ _ _; intro _ _)
      | with_reducible assumption
      | with_reducible exact Lead.pure _
      | with_reducible exact Lead.stuck _
      | with_reducible exact Lead.unsupported _
      | with_reducible exact Lead.goPanic _
      | with_reducible exact Lead.boundsPanic h _ _ _ _
      | with_reducible exact Lead.underlying h _
      | with_reducible exact Lead.sizeOf h _
      | with_reducible exact Lead.asIntOf _
      | with_reducible exact Lead.sureAddr _
      | with_reducible exact Lead.index h _ _ _
      | with_reducible refine Lead.bind ?_ (fun _ => ?_)
      | with_reducible refine Lead.map ?_
      | with_reducible refine Lead.iteH (fun _ => ?_) (fun _ => ?_)
      | split
      | dsimp only

theorem Lead.sliceBound (h : Tab V) (x : Value) (y : Nat) (c : BoundsCode) : Lead V (Instr.sliceBound x y c) := by
    unfold Instr.sliceBound
    repeat' first
      | (with_reducible refine Lead.getObjH h _ ?gk_ (.inr ?gd_) (fun _ _ h => ?_); (case gk_ => intros; rfl); (case gd_ => intro w_; refine ⟨_, _, rfl, ?_⟩; simp [Soft]))
      | (with_reducible refine Lead.forInArray _ ?_ _ _; intro _ _)
      | (with_reducible refine Lead.forInRange _ ?_ _ _; intro _ _)
      | (with_reducible refine Lead.forInList _ ?_ _ _; intro _ _)
      | (with_reducible refine Lead.mapArray _ ?_ _; intro _)
      | (with_reducible refine Lead.foldlM _ ?_ _ _; intro _ _)
      | with_reducible assumption
      | with_reducible exact Lead.pure _
      | with_reducible exact Lead.stuck _
      | with_reducible exact Lead.unsupported _
      | with_reducible exact Lead.goPanic _
      | with_reducible exact Lead.boundsPanic h _ _ _ _
      | with_reducible exact Lead.asIntOf _
      | with_reducible refine Lead.bind ?_ (fun _ => ?_)
      | with_reducible refine Lead.map ?_
      | with_reducible refine Lead.iteH (fun _ => ?_) (fun _ => ?_)
      | split
      | dsimp only

theorem Lead.sliceBounds (h : Tab V) (b : Bool) (l c : Nat) (x y z : Option Value) : Lead V (Instr.sliceBounds b l c x y z) := by
    unfold Instr.sliceBounds
    repeat' first
      | (with_reducible refine Lead.getObjH h _ ?gk_ (.inr ?gd_) (fun _ _ h => ?_); (case gk_ => intros; rfl); (case gd_ => intro w_; refine ⟨_, _, rfl, ?_⟩; simp [Soft]))
      | (with_reducible refine Lead.forInArray _ ?_ _ _; intro _ _)
      | (with_reducible refine Lead.forInRange _ ?_ _ _; intro _ _)
      | (with_reducible refine Lead.forInList _ ?_ _ _; intro _ _)
      | (with_reducible refine Lead.mapArray _ ?_ _; intro _)
      | (with_reducible refine Lead.foldlM _ ?_ _ _; intro _ _)
      | with_reducible assumption
      | with_reducible exact Lead.pure _
      | with_reducible exact Lead.stuck _
      | with_reducible exact Lead.unsupported _
      | with_reducible exact Lead.goPanic _
      | with_reducible exact Lead.sliceBound h _ _ _
      | with_reducible refine Lead.bind ?_ (fun _ => ?_)
      | with_reducible refine Lead.map ?_
      | with_reducible refine Lead.iteH (fun _ => ?_) (fun _ => ?_)
      | split
      | dsimp only

theorem Lead.slice (h : Tab V) (t : TypeId) (x : Value) (l m n : Option Value) : Lead V (Instr.slice t x l m n) := by
    unfold Instr.slice
    repeat' first
      | (with_reducible refine Lead.getObjH h _ ?gk_ (.inr ?gd_) (fun _ _ h => ?_); (case gk_ => intros; rfl); (case gd_ => intro w_; refine ⟨_, _, rfl, ?_⟩; simp [Soft]))
      | (with_reducible refine Lead.forInArray _ ?_ _ _; intro _ _)
      | (with_reducible refine Lead.forInRange _ ?_ _ _; intro _ _)
      | (with_reducible refine Lead.forInList _ ?_ _ _; intro _ _)
      | (with_reducible refine Lead.mapArray _ ?_ _; intro _)
      | (with_reducible refine Lead.foldlM _ ?_ _ _; intro _ _)
      | with_reducible assumption
      | with_reducible exact Lead.pure _
      | with_reducible exact Lead.stuck _
      | with_reducible exact Lead.unsupported _
      | with_reducible exact Lead.goPanic _
      | with_reducible exact Lead.underlying h _
      | with_reducible exact Lead.typeInfo h _
      | with_reducible exact Lead.sizeOf h _
      | with_reducible exact Lead.newVar _ _
      | with_reducible exact Lead.asInt _
      | with_reducible exact Lead.asAddr h _
      | with_reducible exact Lead.index h _ _ _
      | with_reducible exact Lead.sliceBounds h _ _ _ _ _ _
      | with_reducible refine Lead.bind ?_ (fun _ => ?_)
      | with_reducible refine Lead.map ?_
      | with_reducible refine Lead.iteH (fun _ => ?_) (fun _ => ?_)
      | split
      | dsimp only

theorem Lead.sliceAt (h : Tab V) (t : TypeId) (x : Value) (l m n : Option Value) : Lead V (Instr.sliceAt t x l m n) := by
    unfold Instr.sliceAt
    repeat' first
      | (with_reducible refine Lead.getObjH h _ ?gk_ (.inr ?gd_) (fun _ _ h => ?_); (case gk_ => intros; rfl); (case gd_ => intro w_; refine ⟨_, _, rfl, ?_⟩; simp [Soft]))
      | (with_reducible refine Lead.forInArray _ ?_ _ _; intro _ _)
      | (with_reducible refine Lead.forInRange _ ?_ _ _; intro _ _)
      | (with_reducible refine Lead.forInList _ ?_ _ _; intro _ _)
      | (with_reducible refine Lead.mapArray _ ?_ _; intro _)
      | (with_reducible refine Lead.foldlM _ ?_ _ _; intro _ _)
      | with_reducible assumption
      | with_reducible exact Lead.pure _
      | with_reducible exact Lead.stuck _
      | with_reducible exact Lead.unsupported _
      | with_reducible exact Lead.goPanic _
      | with_reducible exact Lead.runtimePanic h _
      | with_reducible exact Lead.underlying h _
      | with_reducible exact Lead.typeInfo h _
      | with_reducible exact Lead.sizeOf h _
      | with_reducible exact Lead.asInt _
      | with_reducible exact Lead.sureAddr _
      | with_reducible exact Lead.sliceBounds h _ _ _ _ _ _
      | with_reducible exact Lead.slice h _ _ _ _ _
      | with_reducible refine Lead.bind ?_ (fun _ => ?_)
      | with_reducible refine Lead.map ?_
      | with_reducible refine Lead.iteH (fun _ => ?_) (fun _ => ?_)
      | split
      | dsimp only

theorem Lead.arrayAt (h : Tab V) (t : TypeId) (x : Value) : Lead V (Instr.arrayAt t x) := by
    unfold Instr.arrayAt
    repeat' first
      | (with_reducible refine Lead.getObjH h _ ?gk_ (.inr ?gd_) (fun _ _ h => ?_); (case gk_ => intros; rfl); (case gd_ => intro w_; refine ⟨_, _, rfl, ?_⟩; simp [Soft]))
      | (with_reducible refine Lead.forInArray _ ?_ _ _; intro _ _)
      | (with_reducible refine Lead.forInRange _ ?_ _ _; intro _ _)
      | (with_reducible refine Lead.forInList _ ?_ _ _; intro _ _)
      | (with_reducible refine Lead.mapArray _ ?_ _; intro _)
      | (with_reducible refine Lead.foldlM _ ?_ _ _; intro _ _)
      | with_reducible assumption
      | with_reducible exact Lead.pure _
      | with_reducible exact Lead.stuck _
      | with_reducible exact Lead.unsupported _
      | with_reducible exact Lead.goPanic _
      | with_reducible exact Lead.runtimePanic h _
      | with_reducible exact Lead.underlying h _
      | with_reducible exact Lead.slice h _ _ _ _ _
      | with_reducible refine Lead.bind ?_ (fun _ => ?_)
      | with_reducible refine Lead.map ?_
      | with_reducible refine Lead.iteH (fun _ => ?_) (fun _ => ?_)
      | split
      | dsimp only

theorem Lead.makeInterface (h : Tab V) (t : TypeId) (x : Value) : Lead V (Instr.makeInterface t x) := by
    unfold Instr.makeInterface
    repeat' first
      | (with_reducible refine Lead.getObjH h _ ?gk_ (.inr ?gd_) (fun _ _ h => ?_); (case gk_ => intros; rfl); (case gd_ => intro w_; refine ⟨_, _, rfl, ?_⟩; simp [Soft]))
      | (with_reducible refine Lead.forInArray _ ?_ _ _; intro _ _)
      | (with_reducible refine Lead.forInRange _ ?_ _ _; intro _ _)
      | (with_reducible refine Lead.forInList _ ?_ _ _; intro _ _)
      | (with_reducible refine Lead.mapArray _ ?_ _; intro _)
      | (with_reducible refine Lead.foldlM _ ?_ _ _; intro _ _)
      | with_reducible assumption
      | with_reducible exact Lead.pure _
      | with_reducible exact Lead.stuck _
      | with_reducible exact Lead.unsupported _
      | with_reducible exact Lead.goPanic _
      | with_reducible exact Lead.underlying h _
      | with_reducible refine Lead.bind ?_ (fun _ => ?_)
      | with_reducible refine Lead.map ?_
      | with_reducible refine Lead.iteH (fun _ => ?_) (fun _ => ?_)
      | split
      | dsimp only

theorem Lead.makeFunc (h : Tab V) (f : Fn) (a b : Array Value) : Lead V (Instr.makeFunc f a b) := by
    unfold Instr.makeFunc
    repeat' first
      | (with_reducible refine Lead.getObjH h _ ?gk_ (.inr ?gd_) (fun _ _ h => ?_); (case gk_ => intros; rfl); (case gd_ => intro w_; refine ⟨_, _, rfl, ?_⟩; simp [Soft]))
      | (with_reducible refine Lead.forInArray _ ?_ _ _; intro _ _)
      | (with_reducible refine Lead.forInRange _ ?_ _ _; intro _ _)
      | (with_reducible refine Lead.forInList _ ?_ _ _; intro _ _)
      | (with_reducible refine Lead.mapArray _ ?_ _; intro _)
      | (with_reducible refine Lead.foldlM _ ?_ _ _; intro _ _)
      | with_reducible assumption
      | with_reducible exact Lead.pure _
      | with_reducible exact Lead.stuck _
      | with_reducible exact Lead.unsupported _
      | with_reducible exact Lead.goPanic _
      | with_reducible exact Lead.underlying h _
      | with_reducible exact Lead.slice h _ _ _ _ _
      | with_reducible refine Lead.bind ?_ (fun _ => ?_)
      | with_reducible refine Lead.map ?_
      | with_reducible refine Lead.iteH (fun _ => ?_) (fun _ => ?_)
      | split
      | dsimp only

theorem Lead.extract (h : Tab V) (v : Value) (i : Nat) : Lead V (Instr.extract v i) := by
    unfold Instr.extract
    repeat' first
      | (with_reducible refine Lead.getObjH h _ ?gk_ (.inr ?gd_) (fun _ _ h => ?_); (case gk_ => intros; rfl); (case gd_ => intro w_; refine ⟨_, _, rfl, ?_⟩; simp [Soft]))
      | (with_reducible refine Lead.forInArray _ ?_ _ _; intro _ _)
      | (with_reducible refine Lead.forInRange _ ?_ _ _; intro _ _)
      | (with_reducible refine Lead.forInList _ ?_ _ _; intro _ _)
      | (with_reducible refine Lead.mapArray _ ?_ _; intro _)
      | (with_reducible refine Lead.foldlM _ ?_ _ _; intro _ _)
      | with_reducible assumption
      | with_reducible exact Lead.pure _
      | with_reducible exact Lead.stuck _
      | with_reducible exact Lead.unsupported _
      | with_reducible exact Lead.goPanic _
      | with_reducible exact Lead.index h _ _ _
      | with_reducible refine Lead.bind ?_ (fun _ => ?_)
      | with_reducible refine Lead.map ?_
      | with_reducible refine Lead.iteH (fun _ => ?_) (fun _ => ?_)
      | split
      | dsimp only

theorem Lead.buildSlice (h : Tab V) (t : TypeId) (n : Nat) (ps : Array (Nat × Value)) : Lead V (Instr.buildSlice t n ps) := by
    unfold Instr.buildSlice
    repeat' first
      | (with_reducible refine Lead.getObjH h _ ?gk_ (.inr ?gd_) (fun _ _ h => ?_); (case gk_ => intros; rfl); (case gd_ => intro w_; refine ⟨_, _, rfl, ?_⟩; simp [Soft]))
      | (with_reducible refine Lead.forInArray _ ?_ _ _; intro _ _)
      | (with_reducible refine Lead.forInRange _ ?_ _ _; intro _ _)
      | (with_reducible refine Lead.forInList _ ?_ _ _; intro _ _)
      | (with_reducible refine Lead.mapArray _ ?_ _; intro _)
      | (with_reducible refine Lead.foldlM _ ?_ _ _; intro _ _)
      | with_reducible assumption
      | with_reducible exact Lead.pure _
      | with_reducible exact Lead.stuck _
      | with_reducible exact Lead.unsupported _
      | with_reducible exact Lead.goPanic _
      | with_reducible exact Lead.underlying h _
      | with_reducible exact Lead.zeroValue h _
      | with_reducible exact Lead.sizeOf h _
      | with_reducible exact Lead.newRow _ _
      | with_reducible exact Lead.part h _ _ _
      | with_reducible exact Lead.slice h _ _ _ _ _
      | with_reducible refine Lead.bind ?_ (fun _ => ?_)
      | with_reducible refine Lead.map ?_
      | with_reducible refine Lead.iteH (fun _ => ?_) (fun _ => ?_)
      | split
      | dsimp only

theorem Lead.makeSlice (h : Tab V) (t : TypeId) (l c : Value) : Lead V (Instr.makeSlice t l c) := by
    unfold Instr.makeSlice
    repeat' first
      | (with_reducible refine Lead.getObjH h _ ?gk_ (.inr ?gd_) (fun _ _ h => ?_); (case gk_ => intros; rfl); (case gd_ => intro w_; refine ⟨_, _, rfl, ?_⟩; simp [Soft]))
      | (with_reducible refine Lead.forInArray _ ?_ _ _; intro _ _)
      | (with_reducible refine Lead.forInRange _ ?_ _ _; intro _ _)
      | (with_reducible refine Lead.forInList _ ?_ _ _; intro _ _)
      | (with_reducible refine Lead.mapArray _ ?_ _; intro _)
      | (with_reducible refine Lead.foldlM _ ?_ _ _; intro _ _)
      | with_reducible assumption
      | with_reducible exact Lead.pure _
      | with_reducible exact Lead.stuck _
      | with_reducible exact Lead.unsupported _
      | with_reducible exact Lead.goPanic _
      | with_reducible exact Lead.runtimePanic h _
      | with_reducible exact Lead.underlying h _
      | with_reducible exact Lead.typeInfo h _
      | with_reducible exact Lead.zeroValue h _
      | with_reducible exact Lead.sizeOf h _
      | with_reducible exact Lead.newRow _ _
      | with_reducible exact Lead.asInt _
      | with_reducible exact Lead.choose _
      | with_reducible exact Lead.askRoom _
      | with_reducible exact Lead.slice h _ _ _ _ _
      | with_reducible refine Lead.bind ?_ (fun _ => ?_)
      | with_reducible refine Lead.map ?_
      | with_reducible refine Lead.iteH (fun _ => ?_) (fun _ => ?_)
      | split
      | dsimp only

theorem Lead.intArith (h : Tab V) (o : BinOp) (k : IntKind) (x y : Int) : Lead V (Op.intArith o k x y) := by
    unfold Op.intArith
    repeat' first
      | (with_reducible refine Lead.getObjH h _ ?gk_ (.inr ?gd_) (fun _ _ h => ?_); (case gk_ => intros; rfl); (case gd_ => intro w_; refine ⟨_, _, rfl, ?_⟩; simp [Soft]))
      | (with_reducible refine Lead.forInArray _ ?_ _ _; intro _ _)
      | (with_reducible refine Lead.forInRange _ ?_ _ _; intro _ _)
      | (with_reducible refine Lead.forInList _ ?_ _ _; intro _ _)
      | (with_reducible refine Lead.mapArray _ ?_ _; intro _)
      | (with_reducible refine Lead.foldlM _ ?_ _ _; intro _ _)
      | with_reducible assumption
      | with_reducible exact Lead.pure _
      | with_reducible exact Lead.stuck _
      | with_reducible exact Lead.unsupported _
      | with_reducible exact Lead.goPanic _
      | with_reducible refine Lead.bind ?_ (fun _ => ?_)
      | with_reducible refine Lead.map ?_
      | with_reducible refine Lead.iteH (fun _ => ?_) (fun _ => ?_)
      | split
      | dsimp only

theorem Lead.intDiv (h : Tab V) (o : BinOp) (k : IntKind) (x y : Int) : Lead V (Op.intDiv o k x y) := by
    unfold Op.intDiv
    repeat' first
      | (with_reducible refine Lead.getObjH h _ ?gk_ (.inr ?gd_) (fun _ _ h => ?_); (case gk_ => intros; rfl); (case gd_ => intro w_; refine ⟨_, _, rfl, ?_⟩; simp [Soft]))
      | (with_reducible refine Lead.forInArray _ ?_ _ _; intro _ _)
      | (with_reducible refine Lead.forInRange _ ?_ _ _; intro _ _)
      | (with_reducible refine Lead.forInList _ ?_ _ _; intro _ _)
      | (with_reducible refine Lead.mapArray _ ?_ _; intro _)
      | (with_reducible refine Lead.foldlM _ ?_ _ _; intro _ _)
      | with_reducible assumption
      | with_reducible exact Lead.pure _
      | with_reducible exact Lead.stuck _
      | with_reducible exact Lead.unsupported _
      | with_reducible exact Lead.goPanic _
      | with_reducible exact Lead.runtimePanic h _
      | with_reducible refine Lead.bind ?_ (fun _ => ?_)
      | with_reducible refine Lead.map ?_
      | with_reducible refine Lead.iteH (fun _ => ?_) (fun _ => ?_)
      | split
      | dsimp only

theorem Lead.intBits (h : Tab V) (o : BinOp) (k : IntKind) (x y : Int) : Lead V (Op.intBits o k x y) := by
    unfold Op.intBits
    repeat' first
      | (with_reducible refine Lead.getObjH h _ ?gk_ (.inr ?gd_) (fun _ _ h => ?_); (case gk_ => intros; rfl); (case gd_ => intro w_; refine ⟨_, _, rfl, ?_⟩; simp [Soft]))
      | (with_reducible refine Lead.forInArray _ ?_ _ _; intro _ _)
      | (with_reducible refine Lead.forInRange _ ?_ _ _; intro _ _)
      | (with_reducible refine Lead.forInList _ ?_ _ _; intro _ _)
      | (with_reducible refine Lead.mapArray _ ?_ _; intro _)
      | (with_reducible refine Lead.foldlM _ ?_ _ _; intro _ _)
      | with_reducible assumption
      | with_reducible exact Lead.pure _
      | with_reducible exact Lead.stuck _
      | with_reducible exact Lead.unsupported _
      | with_reducible exact Lead.goPanic _
      | with_reducible refine Lead.bind ?_ (fun _ => ?_)
      | with_reducible refine Lead.map ?_
      | with_reducible refine Lead.iteH (fun _ => ?_) (fun _ => ?_)
      | split
      | dsimp only

theorem Lead.shift (h : Tab V) (o : BinOp) (k : IntKind) (x : Int) (j : IntKind) (y : Int) : Lead V (Op.shift o k x j y) := by
    unfold Op.shift
    repeat' first
      | (with_reducible refine Lead.getObjH h _ ?gk_ (.inr ?gd_) (fun _ _ h => ?_); (case gk_ => intros; rfl); (case gd_ => intro w_; refine ⟨_, _, rfl, ?_⟩; simp [Soft]))
      | (with_reducible refine Lead.forInArray _ ?_ _ _; intro _ _)
      | (with_reducible refine Lead.forInRange _ ?_ _ _; intro _ _)
      | (with_reducible refine Lead.forInList _ ?_ _ _; intro _ _)
      | (with_reducible refine Lead.mapArray _ ?_ _; intro _)
      | (with_reducible refine Lead.foldlM _ ?_ _ _; intro _ _)
      | with_reducible assumption
      | with_reducible exact Lead.pure _
      | with_reducible exact Lead.stuck _
      | with_reducible exact Lead.unsupported _
      | with_reducible exact Lead.goPanic _
      | with_reducible exact Lead.runtimePanic h _
      | with_reducible refine Lead.bind ?_ (fun _ => ?_)
      | with_reducible refine Lead.map ?_
      | with_reducible refine Lead.iteH (fun _ => ?_) (fun _ => ?_)
      | split
      | dsimp only

theorem Lead.intCmp (h : Tab V) (o : BinOp) (x y : Int) : Lead V (Op.intCmp o x y) := by
    unfold Op.intCmp
    repeat' first
      | (with_reducible refine Lead.getObjH h _ ?gk_ (.inr ?gd_) (fun _ _ h => ?_); (case gk_ => intros; rfl); (case gd_ => intro w_; refine ⟨_, _, rfl, ?_⟩; simp [Soft]))
      | (with_reducible refine Lead.forInArray _ ?_ _ _; intro _ _)
      | (with_reducible refine Lead.forInRange _ ?_ _ _; intro _ _)
      | (with_reducible refine Lead.forInList _ ?_ _ _; intro _ _)
      | (with_reducible refine Lead.mapArray _ ?_ _; intro _)
      | (with_reducible refine Lead.foldlM _ ?_ _ _; intro _ _)
      | with_reducible assumption
      | with_reducible exact Lead.pure _
      | with_reducible exact Lead.stuck _
      | with_reducible exact Lead.unsupported _
      | with_reducible exact Lead.goPanic _
      | with_reducible refine Lead.bind ?_ (fun _ => ?_)
      | with_reducible refine Lead.map ?_
      | with_reducible refine Lead.iteH (fun _ => ?_) (fun _ => ?_)
      | split
      | dsimp only

theorem Lead.stringOp (h : Tab V) (o : BinOp) (x y : ByteArray) : Lead V (Op.stringOp o x y) := by
    unfold Op.stringOp
    repeat' first
      | (with_reducible refine Lead.getObjH h _ ?gk_ (.inr ?gd_) (fun _ _ h => ?_); (case gk_ => intros; rfl); (case gd_ => intro w_; refine ⟨_, _, rfl, ?_⟩; simp [Soft]))
      | (with_reducible refine Lead.forInArray _ ?_ _ _; intro _ _)
      | (with_reducible refine Lead.forInRange _ ?_ _ _; intro _ _)
      | (with_reducible refine Lead.forInList _ ?_ _ _; intro _ _)
      | (with_reducible refine Lead.mapArray _ ?_ _; intro _)
      | (with_reducible refine Lead.foldlM _ ?_ _ _; intro _ _)
      | with_reducible assumption
      | with_reducible exact Lead.pure _
      | with_reducible exact Lead.stuck _
      | with_reducible exact Lead.unsupported _
      | with_reducible exact Lead.goPanic _
      | with_reducible refine Lead.bind ?_ (fun _ => ?_)
      | with_reducible refine Lead.map ?_
      | with_reducible refine Lead.iteH (fun _ => ?_) (fun _ => ?_)
      | split
      | dsimp only

theorem Lead.unary (h : Tab V) (o : UnOp) (x : Value) : Lead V (Op.unary o x) := by
    unfold Op.unary
    repeat' first
      | (with_reducible refine Lead.getObjH h _ ?gk_ (.inr ?gd_) (fun _ _ h => ?_); (case gk_ => intros; rfl); (case gd_ => intro w_; refine ⟨_, _, rfl, ?_⟩; simp [Soft]))
      | (with_reducible refine Lead.forInArray _ ?_ _ _; intro _ _)
      | (with_reducible refine Lead.forInRange _ ?_ _ _; intro _ _)
      | (with_reducible refine Lead.forInList _ ?_ _ _; intro _ _)
      | (with_reducible refine Lead.mapArray _ ?_ _; intro _)
      | (with_reducible refine Lead.foldlM _ ?_ _ _; intro _ _)
      | with_reducible assumption
      | with_reducible exact Lead.pure _
      | with_reducible exact Lead.stuck _
      | with_reducible exact Lead.unsupported _
      | with_reducible exact Lead.goPanic _
      | with_reducible exact Lead.intArith h _ _ _ _
      | with_reducible exact Lead.intBits h _ _ _ _
      | with_reducible refine Lead.bind ?_ (fun _ => ?_)
      | with_reducible refine Lead.map ?_
      | with_reducible refine Lead.iteH (fun _ => ?_) (fun _ => ?_)
      | split
      | dsimp only

theorem Lead.len_ (h : Tab V) (a : Array TypeId) (t : TypeId) (x : Array Value) : Lead V (Builtin.len_ a t x) := by
    unfold Builtin.len_
    repeat' first
      | (with_reducible refine Lead.getObjH h _ ?gk_ (.inr ?gd_) (fun _ _ h => ?_); (case gk_ => intros; rfl); (case gd_ => intro w_; refine ⟨_, _, rfl, ?_⟩; simp [Soft]))
      | (with_reducible refine Lead.forInArray _ ?_ _ _; intro _ _)
      | (with_reducible refine Lead.forInRange _ ?_ _ _; intro _ _)
      | (with_reducible refine Lead.forInList _ ?_ _ _; intro _ _)
      | (with_reducible refine Lead.mapArray _ ?_ _; intro _)
      | (with_reducible refine Lead.foldlM _ ?_ _ _; intro _ _)
      | with_reducible assumption
      | with_reducible exact Lead.pure _
      | with_reducible exact Lead.stuck _
      | with_reducible exact Lead.unsupported _
      | with_reducible exact Lead.goPanic _
      | with_reducible exact Lead.underlying h _
      | with_reducible exact Lead.slice h _ _ _ _ _
      | with_reducible refine Lead.bind ?_ (fun _ => ?_)
      | with_reducible refine Lead.map ?_
      | with_reducible refine Lead.iteH (fun _ => ?_) (fun _ => ?_)
      | split
      | dsimp only

theorem Lead.cap_ (h : Tab V) (a : Array TypeId) (t : TypeId) (x : Array Value) : Lead V (Builtin.cap_ a t x) := by
    unfold Builtin.cap_
    repeat' first
      | (with_reducible refine Lead.getObjH h _ ?gk_ (.inr ?gd_) (fun _ _ h => ?_); (case gk_ => intros; rfl); (case gd_ => intro w_; refine ⟨_, _, rfl, ?_⟩; simp [Soft]))
      | (with_reducible refine Lead.forInArray _ ?_ _ _; intro _ _)
      | (with_reducible refine Lead.forInRange _ ?_ _ _; intro _ _)
      | (with_reducible refine Lead.forInList _ ?_ _ _; intro _ _)
      | (with_reducible refine Lead.mapArray _ ?_ _; intro _)
      | (with_reducible refine Lead.foldlM _ ?_ _ _; intro _ _)
      | with_reducible assumption
      | with_reducible exact Lead.pure _
      | with_reducible exact Lead.stuck _
      | with_reducible exact Lead.unsupported _
      | with_reducible exact Lead.goPanic _
      | with_reducible exact Lead.underlying h _
      | with_reducible exact Lead.slice h _ _ _ _ _
      | with_reducible refine Lead.bind ?_ (fun _ => ?_)
      | with_reducible refine Lead.map ?_
      | with_reducible refine Lead.iteH (fun _ => ?_) (fun _ => ?_)
      | split
      | dsimp only

theorem Lead.lenOf (h : Tab V) (x : Value) : Lead V (Builtin.lenOf x) := by
    unfold Builtin.lenOf
    repeat' first
      | (with_reducible refine Lead.getObjH h _ ?gk_ (.inr ?gd_) (fun _ _ h => ?_); (case gk_ => intros; rfl); (case gd_ => intro w_; refine ⟨_, _, rfl, ?_⟩; simp [Soft]))
      | (with_reducible refine Lead.forInArray _ ?_ _ _; intro _ _)
      | (with_reducible refine Lead.forInRange _ ?_ _ _; intro _ _)
      | (with_reducible refine Lead.forInList _ ?_ _ _; intro _ _)
      | (with_reducible refine Lead.mapArray _ ?_ _; intro _)
      | (with_reducible refine Lead.foldlM _ ?_ _ _; intro _ _)
      | with_reducible assumption
      | with_reducible exact Lead.pure _
      | with_reducible exact Lead.stuck _
      | with_reducible exact Lead.unsupported _
      | with_reducible exact Lead.goPanic _
      | with_reducible exact Lead.slice h _ _ _ _ _
      | with_reducible refine Lead.bind ?_ (fun _ => ?_)
      | with_reducible refine Lead.map ?_
      | with_reducible refine Lead.iteH (fun _ => ?_) (fun _ => ?_)
      | split
      | dsimp only

theorem Lead.firstCells (h : Tab V) (s n : Nat) (x : Value) : Lead V (Builtin.firstCells s n x) := by
    unfold Builtin.firstCells
    repeat' first
      | (with_reducible refine Lead.getObjH h _ ?gk_ (.inr ?gd_) (fun _ _ h => ?_); (case gk_ => intros; rfl); (case gd_ => intro w_; refine ⟨_, _, rfl, ?_⟩; simp [Soft]))
      | (with_reducible refine Lead.forInArray _ ?_ _ _; intro _ _)
      | (with_reducible refine Lead.forInRange _ ?_ _ _; intro _ _)
      | (with_reducible refine Lead.forInList _ ?_ _ _; intro _ _)
      | (with_reducible refine Lead.mapArray _ ?_ _; intro _)
      | (with_reducible refine Lead.foldlM _ ?_ _ _; intro _ _)
      | with_reducible assumption
      | with_reducible exact Lead.pure _
      | with_reducible exact Lead.stuck _
      | with_reducible exact Lead.unsupported _
      | with_reducible exact Lead.goPanic _
      | with_reducible exact Lead.loadCells _ _
      | with_reducible exact Lead.slice h _ _ _ _ _
      | with_reducible exact Lead.extract h _ _
      | with_reducible refine Lead.bind ?_ (fun _ => ?_)
      | with_reducible refine Lead.map ?_
      | with_reducible refine Lead.iteH (fun _ => ?_) (fun _ => ?_)
      | split
      | dsimp only

theorem Lead.copy_ (h : Tab V) (a : Array TypeId) (t : TypeId) (x : Array Value) : Lead V (Builtin.copy_ a t x) := by
    unfold Builtin.copy_
    repeat' first
      | (with_reducible refine Lead.getObjH h _ ?gk_ (.inr ?gd_) (fun _ _ h => ?_); (case gk_ => intros; rfl); (case gd_ => intro w_; refine ⟨_, _, rfl, ?_⟩; simp [Soft]))
      | (with_reducible refine Lead.forInArray _ ?_ _ _; intro _ _)
      | (with_reducible refine Lead.forInRange _ ?_ _ _; intro _ _)
      | (with_reducible refine Lead.forInList _ ?_ _ _; intro _ _)
      | (with_reducible refine Lead.mapArray _ ?_ _; intro _)
      | (with_reducible refine Lead.foldlM _ ?_ _ _; intro _ _)
      | with_reducible assumption
      | with_reducible exact Lead.pure _
      | with_reducible exact Lead.stuck _
      | with_reducible exact Lead.unsupported _
      | with_reducible exact Lead.goPanic _
      | with_reducible exact Lead.underlying h _
      | with_reducible exact Lead.sizeOf h _
      | with_reducible exact Lead.storeCells _ _ _
      | with_reducible exact Lead.slice h _ _ _ _ _
      | with_reducible exact Lead.lenOf h _
      | with_reducible exact Lead.firstCells h _ _ _
      | with_reducible refine Lead.bind ?_ (fun _ => ?_)
      | with_reducible refine Lead.map ?_
      | with_reducible refine Lead.iteH (fun _ => ?_) (fun _ => ?_)
      | split
      | dsimp only

theorem Lead.checkKey (h : Tab V) : ∀ (n : Nat) (e : Bool) (t : TypeId) (v : Value), Lead V (Instr.checkKey e n t v) := by
    intro n
    induction n with
    | zero => intros; exact Lead.soft _
    | succ n ih =>
    intros
    unfold Instr.checkKey
    repeat' first
      | (with_reducible refine Lead.getObjH h _ ?gk_ (.inr ?gd_) (fun _ _ h => ?_); (case gk_ => intros; rfl); (case gd_ => intro w_; refine ⟨_, _, rfl, ?_⟩; simp [Soft]))
      | (with_reducible refine Lead.forInArray _ ?_ _ _; intro _ _)
      | (with_reducible refine Lead.forInRange _ ?_ _ _; intro _ _)
      | (with_reducible refine Lead.forInList _ ?_ _ _; intro _ _)
      | (with_reducible refine Lead.mapArray _ ?_ _; intro _)
      | (with_reducible refine Lead.foldlM _ ?_ _ _; intro _ _)
      | with_reducible assumption
      | with_reducible exact Lead.pure _
      | with_reducible exact Lead.stuck _
      | with_reducible exact Lead.unsupported _
      | with_reducible exact Lead.goPanic _
      | with_reducible exact Lead.runtimePanic h _
      | with_reducible exact Lead.underlying h _
      | with_reducible exact Lead.typeInfo h _
      | with_reducible exact Lead.sizeOf h _
      | with_reducible exact Lead.part h _ _ _
      | with_reducible exact Lead.typeStr h _
      | with_reducible exact Lead.typeStr h _
      | with_reducible apply ih
      | with_reducible refine Lead.bind ?_ (fun _ => ?_)
      | with_reducible refine Lead.map ?_
      | with_reducible refine Lead.iteH (fun _ => ?_) (fun _ => ?_)
      | split
      | dsimp only

theorem Lead.bytesToString (h : Tab V) (x : Value) : Lead V (Conv.bytesToString x) := by
    unfold Conv.bytesToString
    repeat' first
      | (with_reducible refine Lead.getObjH h _ ?gk_ (.inr ?gd_) (fun _ _ h => ?_); (case gk_ => intros; rfl); (case gd_ => intro w_; refine ⟨_, _, rfl, ?_⟩; simp [Soft]))
      | (with_reducible refine Lead.forInArray _ ?_ _ _; intro _ _)
      | (with_reducible refine Lead.forInRange _ ?_ _ _; intro _ _)
      | (with_reducible refine Lead.forInList _ ?_ _ _; intro _ _)
      | (with_reducible refine Lead.mapArray _ ?_ _; intro _)
      | (with_reducible refine Lead.foldlM _ ?_ _ _; intro _ _)
      | with_reducible assumption
      | with_reducible exact Lead.pure _
      | with_reducible exact Lead.stuck _
      | with_reducible exact Lead.unsupported _
      | with_reducible exact Lead.goPanic _
      | with_reducible exact Lead.loadCells _ _
      | with_reducible exact Lead.slice h _ _ _ _ _
      | with_reducible refine Lead.bind ?_ (fun _ => ?_)
      | with_reducible refine Lead.map ?_
      | with_reducible refine Lead.iteH (fun _ => ?_) (fun _ => ?_)
      | split
      | dsimp only

theorem Lead.equalIn (h : Tab V) : ∀ (n : Nat) (t : TypeId) (x y : Value), Lead V (Op.equalIn n t x y) := by
    intro n
    induction n with
    | zero => intros; exact Lead.soft _
    | succ n ih =>
    intros
    unfold Op.equalIn
    repeat' first
      | (with_reducible refine Lead.program ?eq_ ?_; (case eq_ => simp only [tables_holdsPacked h.tables, tables_stoodInHeld h.tables, tables_depth h.tables, tables_globals h.tables, tables_eqGuard h.tables, tables_info h.tables]))
      | (refine Lead.byteOfG h _ ?_; simp_all; done)
      | (refine Lead.byteOfG h _ ?_; simp_all; omega)
      | (with_reducible refine Lead.getObjH h _ ?gk_ (.inr ?gd_) (fun _ _ h => ?_); (case gk_ => intros; rfl); (case gd_ => intro w_; refine ⟨_, _, rfl, ?_⟩; simp [Soft]))
      | (with_reducible refine Lead.forInArray _ ?_ _ _; intro _ _)
      | (with_reducible refine Lead.forInRange _ ?_ _ _; intro _ _)
      | (with_reducible refine Lead.forInList _ ?_ _ _; intro _ _)
      | (with_reducible refine Lead.mapArray _ ?_ _; intro _)
      | (with_reducible refine Lead.foldlM _ ?_ _ _; intro _ _)
      | with_reducible assumption
      | with_reducible exact Lead.pure _
      | with_reducible exact Lead.stuck _
      | with_reducible exact Lead.unsupported _
      | with_reducible exact Lead.goPanic _

      | with_reducible exact Lead.runtimePanic h _
      | with_reducible exact Lead.boundsPanic h _ _ _ _
      | with_reducible exact Lead.underlying h _
      | with_reducible exact Lead.typeInfo h _
      | with_reducible exact Lead.zeroValue h _
      | with_reducible exact Lead.sizeOf h _
      | with_reducible exact Lead.isAgg h _
      | with_reducible exact Lead.loadCells _ _
      | with_reducible exact Lead.storeCells _ _ _
      | with_reducible exact Lead.loadVar h _ _
      | with_reducible exact Lead.storeVar h _ _ _
      | with_reducible exact Lead.newRow _ _
      | with_reducible exact Lead.newVar _ _
      | with_reducible exact Lead.elemOf h _
      | with_reducible exact Lead.part h _ _ _
      | with_reducible exact Lead.asIntOf _
      | with_reducible exact Lead.asInt _
      | with_reducible exact Lead.asBool _
      | with_reducible exact Lead.asString _
      | with_reducible exact Lead.asAgg _
      | with_reducible exact Lead.asAddr h _
      | with_reducible exact Lead.sureAddr _
      | with_reducible exact Lead.load _ _
      | with_reducible exact Lead.store _ _ _
      | with_reducible exact Lead.choose _
      | with_reducible exact Lead.frozen _
      | with_reducible exact Lead.askRoom _
      | with_reducible exact Lead.typeStr h _
      | with_reducible exact Lead.loadAt h _ _
      | with_reducible exact Lead.storeAt h _ _ _
      | with_reducible exact Lead.alloc h _ _ _
      | with_reducible exact Lead.box h _ _
      | with_reducible exact Lead.field h _ _ _
      | with_reducible exact Lead.index h _ _ _
      | with_reducible exact Lead.indexAt h _ _ _
      | with_reducible exact Lead.sliceBound h _ _ _
      | with_reducible exact Lead.sliceBounds h _ _ _ _ _ _
      | with_reducible exact Lead.slice h _ _ _ _ _
      | with_reducible exact Lead.sliceAt h _ _ _ _ _
      | with_reducible exact Lead.arrayAt h _ _
      | with_reducible exact Lead.makeInterface h _ _
      | with_reducible exact Lead.makeFunc h _ _ _
      | with_reducible exact Lead.extract h _ _
      | with_reducible exact Lead.buildSlice h _ _ _
      | with_reducible exact Lead.makeSlice h _ _ _
      | with_reducible exact Lead.intArith h _ _ _ _
      | with_reducible exact Lead.intDiv h _ _ _ _
      | with_reducible exact Lead.intBits h _ _ _ _
      | with_reducible exact Lead.shift h _ _ _ _ _
      | with_reducible exact Lead.intCmp h _ _ _
      | with_reducible exact Lead.stringOp h _ _ _
      | with_reducible exact Lead.unary h _ _
      | with_reducible exact Lead.len_ h _ _ _
      | with_reducible exact Lead.cap_ h _ _ _
      | with_reducible exact Lead.lenOf h _
      | with_reducible exact Lead.firstCells h _ _ _
      | with_reducible exact Lead.copy_ h _ _ _
      | with_reducible exact Lead.checkKey h _ _ _ _
      | with_reducible exact Lead.bytesToString h _
      | with_reducible exact Lead.behindNumber _
      | with_reducible exact Lead.sameAddr _ _
      | with_reducible exact Lead.samePointer _ _
      | with_reducible exact Lead.noView _
      | with_reducible exact Lead.viewAt _
      | with_reducible exact Lead.numberAt _
      | with_reducible exact Lead.typeStr h _
      | with_reducible apply ih
      | with_reducible refine Lead.bind ?_ (fun _ => ?_)
      | with_reducible refine Lead.map ?_
      | with_reducible refine Lead.iteH (fun _ => ?_) (fun _ => ?_)
      | split
      | dsimp only

theorem Lead.eqGuardIn (h : Tab V) : ∀ (n : Nat) (t : TypeId) (x y : Value), Lead V (Op.eqGuardIn n t x y) := by
    intro n
    induction n with
    | zero => intros; exact Lead.soft _
    | succ n ih =>
    intros
    unfold Op.eqGuardIn
    repeat' first
      | (with_reducible refine Lead.getObjH h _ ?gk_ (.inr ?gd_) (fun _ _ h => ?_); (case gk_ => intros; rfl); (case gd_ => intro w_; refine ⟨_, _, rfl, ?_⟩; simp [Soft]))
      | (with_reducible refine Lead.forInArray _ ?_ _ _; intro _ _)
      | (with_reducible refine Lead.forInRange _ ?_ _ _; intro _ _)
      | (with_reducible refine Lead.forInList _ ?_ _ _; intro _ _)
      | (with_reducible refine Lead.mapArray _ ?_ _; intro _)
      | (with_reducible refine Lead.foldlM _ ?_ _ _; intro _ _)
      | with_reducible assumption
      | with_reducible exact Lead.pure _
      | with_reducible exact Lead.stuck _
      | with_reducible exact Lead.unsupported _
      | with_reducible exact Lead.goPanic _
      | with_reducible exact Lead.underlying h _
      | with_reducible exact Lead.sizeOf h _
      | with_reducible exact Lead.part h _ _ _
      | with_reducible apply ih
      | with_reducible refine Lead.bind ?_ (fun _ => ?_)
      | with_reducible refine Lead.map ?_
      | with_reducible refine Lead.iteH (fun _ => ?_) (fun _ => ?_)
      | split
      | dsimp only

theorem Lead.equal (h : Tab V) (t : TypeId) (x y : Value) : Lead V (Op.equal t x y) := by
    unfold Op.equal
    repeat' first
      | (with_reducible refine Lead.getObjH h _ ?gk_ (.inr ?gd_) (fun _ _ h => ?_); (case gk_ => intros; rfl); (case gd_ => intro w_; refine ⟨_, _, rfl, ?_⟩; simp [Soft]))
      | (with_reducible refine Lead.forInArray _ ?_ _ _; intro _ _)
      | (with_reducible refine Lead.forInRange _ ?_ _ _; intro _ _)
      | (with_reducible refine Lead.forInList _ ?_ _ _; intro _ _)
      | (with_reducible refine Lead.mapArray _ ?_ _; intro _)
      | (with_reducible refine Lead.foldlM _ ?_ _ _; intro _ _)
      | with_reducible assumption
      | with_reducible exact Lead.pure _
      | with_reducible exact Lead.stuck _
      | with_reducible exact Lead.unsupported _
      | with_reducible exact Lead.goPanic _
      | with_reducible exact Lead.equalIn h _ _ _ _
      | with_reducible refine Lead.bind ?_ (fun _ => ?_)
      | with_reducible refine Lead.map ?_
      | with_reducible refine Lead.iteH (fun _ => ?_) (fun _ => ?_)
      | split
      | dsimp only

theorem Lead.eqGuard (h : Tab V) (o : BinOp) (t : TypeId) (x y : Operand) (a b : Value) : Lead V (eqGuard o t x y a b) := by
    unfold Go.eqGuard
    repeat' first
      | (with_reducible refine Lead.program ?eq_ ?_; (case eq_ => simp only [tables_holdsPacked h.tables, tables_stoodInHeld h.tables, tables_depth h.tables, tables_globals h.tables, tables_eqGuard h.tables, tables_info h.tables]))
      | (with_reducible refine Lead.getObjH h _ ?gk_ (.inr ?gd_) (fun _ _ h => ?_); (case gk_ => intros; rfl); (case gd_ => intro w_; refine ⟨_, _, rfl, ?_⟩; simp [Soft]))
      | (with_reducible refine Lead.forInArray _ ?_ _ _; intro _ _)
      | (with_reducible refine Lead.forInRange _ ?_ _ _; intro _ _)
      | (with_reducible refine Lead.forInList _ ?_ _ _; intro _ _)
      | (with_reducible refine Lead.mapArray _ ?_ _; intro _)
      | (with_reducible refine Lead.foldlM _ ?_ _ _; intro _ _)
      | with_reducible assumption
      | with_reducible exact Lead.pure _
      | with_reducible exact Lead.stuck _
      | with_reducible exact Lead.unsupported _
      | with_reducible exact Lead.goPanic _
      | with_reducible exact Lead.part h _ _ _
      | with_reducible exact Lead.eqGuardIn h _ _ _ _
      | with_reducible refine Lead.bind ?_ (fun _ => ?_)
      | with_reducible refine Lead.map ?_
      | with_reducible refine Lead.iteH (fun _ => ?_) (fun _ => ?_)
      | split
      | dsimp only

theorem Lead.floatArith (h : Tab V) (o : BinOp) (k : FloatKind) (x y : Nat) : Lead V (Op.floatArith o k x y) := by
    unfold Op.floatArith
    repeat' first
      | (with_reducible refine Lead.getObjH h _ ?gk_ (.inr ?gd_) (fun _ _ h => ?_); (case gk_ => intros; rfl); (case gd_ => intro w_; refine ⟨_, _, rfl, ?_⟩; simp [Soft]))
      | (with_reducible refine Lead.forInArray _ ?_ _ _; intro _ _)
      | (with_reducible refine Lead.forInRange _ ?_ _ _; intro _ _)
      | (with_reducible refine Lead.forInList _ ?_ _ _; intro _ _)
      | (with_reducible refine Lead.mapArray _ ?_ _; intro _)
      | (with_reducible refine Lead.foldlM _ ?_ _ _; intro _ _)
      | with_reducible assumption
      | with_reducible exact Lead.pure _
      | with_reducible exact Lead.stuck _
      | with_reducible exact Lead.unsupported _
      | with_reducible exact Lead.goPanic _
      | with_reducible exact Lead.choose _
      | with_reducible refine Lead.bind ?_ (fun _ => ?_)
      | with_reducible refine Lead.map ?_
      | with_reducible refine Lead.iteH (fun _ => ?_) (fun _ => ?_)
      | split
      | dsimp only

theorem Lead.floatCmp (h : Tab V) (o : BinOp) (k : FloatKind) (x y : Nat) : Lead V (Op.floatCmp o k x y) := by
    unfold Op.floatCmp
    repeat' first
      | (with_reducible refine Lead.getObjH h _ ?gk_ (.inr ?gd_) (fun _ _ h => ?_); (case gk_ => intros; rfl); (case gd_ => intro w_; refine ⟨_, _, rfl, ?_⟩; simp [Soft]))
      | (with_reducible refine Lead.forInArray _ ?_ _ _; intro _ _)
      | (with_reducible refine Lead.forInRange _ ?_ _ _; intro _ _)
      | (with_reducible refine Lead.forInList _ ?_ _ _; intro _ _)
      | (with_reducible refine Lead.mapArray _ ?_ _; intro _)
      | (with_reducible refine Lead.foldlM _ ?_ _ _; intro _ _)
      | with_reducible assumption
      | with_reducible exact Lead.pure _
      | with_reducible exact Lead.stuck _
      | with_reducible exact Lead.unsupported _
      | with_reducible exact Lead.goPanic _
      | with_reducible refine Lead.bind ?_ (fun _ => ?_)
      | with_reducible refine Lead.map ?_
      | with_reducible refine Lead.iteH (fun _ => ?_) (fun _ => ?_)
      | split
      | dsimp only

theorem Lead.floatToFloat (h : Tab V) (k : FloatKind) (x : Nat) (d : FloatKind) : Lead V (Conv.floatToFloat k x d) := by
    unfold Conv.floatToFloat
    repeat' first
      | (with_reducible refine Lead.getObjH h _ ?gk_ (.inr ?gd_) (fun _ _ h => ?_); (case gk_ => intros; rfl); (case gd_ => intro w_; refine ⟨_, _, rfl, ?_⟩; simp [Soft]))
      | (with_reducible refine Lead.forInArray _ ?_ _ _; intro _ _)
      | (with_reducible refine Lead.forInRange _ ?_ _ _; intro _ _)
      | (with_reducible refine Lead.forInList _ ?_ _ _; intro _ _)
      | (with_reducible refine Lead.mapArray _ ?_ _; intro _)
      | (with_reducible refine Lead.foldlM _ ?_ _ _; intro _ _)
      | with_reducible assumption
      | with_reducible exact Lead.pure _
      | with_reducible exact Lead.stuck _
      | with_reducible exact Lead.unsupported _
      | with_reducible exact Lead.goPanic _
      | with_reducible exact Lead.choose _
      | with_reducible refine Lead.bind ?_ (fun _ => ?_)
      | with_reducible refine Lead.map ?_
      | with_reducible refine Lead.iteH (fun _ => ?_) (fun _ => ?_)
      | split
      | dsimp only

theorem Lead.floatToInt (h : Tab V) (k : FloatKind) (x : Nat) (d : IntKind) : Lead V (Conv.floatToInt k x d) := by
    unfold Conv.floatToInt
    repeat' first
      | (with_reducible refine Lead.getObjH h _ ?gk_ (.inr ?gd_) (fun _ _ h => ?_); (case gk_ => intros; rfl); (case gd_ => intro w_; refine ⟨_, _, rfl, ?_⟩; simp [Soft]))
      | (with_reducible refine Lead.forInArray _ ?_ _ _; intro _ _)
      | (with_reducible refine Lead.forInRange _ ?_ _ _; intro _ _)
      | (with_reducible refine Lead.forInList _ ?_ _ _; intro _ _)
      | (with_reducible refine Lead.mapArray _ ?_ _; intro _)
      | (with_reducible refine Lead.foldlM _ ?_ _ _; intro _ _)
      | with_reducible assumption
      | with_reducible exact Lead.pure _
      | with_reducible exact Lead.stuck _
      | with_reducible exact Lead.unsupported _
      | with_reducible exact Lead.goPanic _
      | with_reducible exact Lead.choose _
      | with_reducible refine Lead.bind ?_ (fun _ => ?_)
      | with_reducible refine Lead.map ?_
      | with_reducible refine Lead.iteH (fun _ => ?_) (fun _ => ?_)
      | split
      | dsimp only

theorem Lead.cArith (h : Tab V) (o : BinOp) (k : FloatKind) (x y : Nat) : Lead V (Op.Complex.arith o k x y) := by
    unfold Op.Complex.arith
    repeat' first
      | (with_reducible refine Lead.getObjH h _ ?gk_ (.inr ?gd_) (fun _ _ h => ?_); (case gk_ => intros; rfl); (case gd_ => intro w_; refine ⟨_, _, rfl, ?_⟩; simp [Soft]))
      | (with_reducible refine Lead.forInArray _ ?_ _ _; intro _ _)
      | (with_reducible refine Lead.forInRange _ ?_ _ _; intro _ _)
      | (with_reducible refine Lead.forInList _ ?_ _ _; intro _ _)
      | (with_reducible refine Lead.mapArray _ ?_ _; intro _)
      | (with_reducible refine Lead.foldlM _ ?_ _ _; intro _ _)
      | with_reducible assumption
      | with_reducible exact Lead.pure _
      | with_reducible exact Lead.stuck _
      | with_reducible exact Lead.unsupported _
      | with_reducible exact Lead.goPanic _
      | with_reducible exact Lead.floatArith h _ _ _ _
      | with_reducible refine Lead.bind ?_ (fun _ => ?_)
      | with_reducible refine Lead.map ?_
      | with_reducible refine Lead.iteH (fun _ => ?_) (fun _ => ?_)
      | split
      | dsimp only

theorem Lead.cCmp (h : Tab V) (o : BinOp) (k : FloatKind) (x y : Nat) : Lead V (Op.Complex.cmp o k x y) := by
    unfold Op.Complex.cmp
    repeat' first
      | (with_reducible refine Lead.getObjH h _ ?gk_ (.inr ?gd_) (fun _ _ h => ?_); (case gk_ => intros; rfl); (case gd_ => intro w_; refine ⟨_, _, rfl, ?_⟩; simp [Soft]))
      | (with_reducible refine Lead.forInArray _ ?_ _ _; intro _ _)
      | (with_reducible refine Lead.forInRange _ ?_ _ _; intro _ _)
      | (with_reducible refine Lead.forInList _ ?_ _ _; intro _ _)
      | (with_reducible refine Lead.mapArray _ ?_ _; intro _)
      | (with_reducible refine Lead.foldlM _ ?_ _ _; intro _ _)
      | with_reducible assumption
      | with_reducible exact Lead.pure _
      | with_reducible exact Lead.stuck _
      | with_reducible exact Lead.unsupported _
      | with_reducible exact Lead.goPanic _
      | with_reducible exact Lead.asBool _
      | with_reducible exact Lead.floatCmp h _ _ _ _
      | with_reducible refine Lead.bind ?_ (fun _ => ?_)
      | with_reducible refine Lead.map ?_
      | with_reducible refine Lead.iteH (fun _ => ?_) (fun _ => ?_)
      | split
      | dsimp only

theorem Lead.cConv (h : Tab V) (k : FloatKind) (x : Nat) (d : FloatKind) : Lead V (Op.Complex.conv k x d) := by
    unfold Op.Complex.conv
    repeat' first
      | (with_reducible refine Lead.getObjH h _ ?gk_ (.inr ?gd_) (fun _ _ h => ?_); (case gk_ => intros; rfl); (case gd_ => intro w_; refine ⟨_, _, rfl, ?_⟩; simp [Soft]))
      | (with_reducible refine Lead.forInArray _ ?_ _ _; intro _ _)
      | (with_reducible refine Lead.forInRange _ ?_ _ _; intro _ _)
      | (with_reducible refine Lead.forInList _ ?_ _ _; intro _ _)
      | (with_reducible refine Lead.mapArray _ ?_ _; intro _)
      | (with_reducible refine Lead.foldlM _ ?_ _ _; intro _ _)
      | with_reducible assumption
      | with_reducible exact Lead.pure _
      | with_reducible exact Lead.stuck _
      | with_reducible exact Lead.unsupported _
      | with_reducible exact Lead.goPanic _
      | with_reducible exact Lead.floatToFloat h _ _ _
      | with_reducible refine Lead.bind ?_ (fun _ => ?_)
      | with_reducible refine Lead.map ?_
      | with_reducible refine Lead.iteH (fun _ => ?_) (fun _ => ?_)
      | split
      | dsimp only

theorem Lead.cadd (h : Tab V) (x y : Nat) : Lead V (Op.Complex.add x y) := by
    unfold Op.Complex.add
    repeat' first
      | (with_reducible refine Lead.program ?eq_ ?_; (case eq_ => simp only [tables_holdsPacked h.tables, tables_stoodInHeld h.tables, tables_depth h.tables, tables_globals h.tables, tables_eqGuard h.tables, tables_info h.tables]))
      | (refine Lead.byteOfG h _ ?_; simp_all; done)
      | (refine Lead.byteOfG h _ ?_; simp_all; omega)
      | (with_reducible refine Lead.getObjH h _ ?gk_ (.inr ?gd_) (fun _ _ h => ?_); (case gk_ => intros; rfl); (case gd_ => intro w_; refine ⟨_, _, rfl, ?_⟩; simp [Soft]))
      | (with_reducible refine Lead.forInArray _ ?_ _ _; intro _ _)
      | (with_reducible refine Lead.forInRange _ ?_ _ _; intro _ _)
      | (with_reducible refine Lead.forInList _ ?_ _ _; intro _ _)
      | (with_reducible refine Lead.mapArray _ ?_ _; intro _)
      | (with_reducible refine Lead.foldlM _ ?_ _ _; intro _ _)
      | with_reducible assumption
      | with_reducible exact Lead.pure _
      | with_reducible exact Lead.stuck _
      | with_reducible exact Lead.unsupported _
      | with_reducible exact Lead.goPanic _

      | with_reducible exact Lead.runtimePanic h _
      | with_reducible exact Lead.boundsPanic h _ _ _ _
      | with_reducible exact Lead.underlying h _
      | with_reducible exact Lead.typeInfo h _
      | with_reducible exact Lead.zeroValue h _
      | with_reducible exact Lead.sizeOf h _
      | with_reducible exact Lead.isAgg h _
      | with_reducible exact Lead.loadCells _ _
      | with_reducible exact Lead.storeCells _ _ _
      | with_reducible exact Lead.loadVar h _ _
      | with_reducible exact Lead.storeVar h _ _ _
      | with_reducible exact Lead.newRow _ _
      | with_reducible exact Lead.newVar _ _
      | with_reducible exact Lead.elemOf h _
      | with_reducible exact Lead.part h _ _ _
      | with_reducible exact Lead.asIntOf _
      | with_reducible exact Lead.asInt _
      | with_reducible exact Lead.asBool _
      | with_reducible exact Lead.asString _
      | with_reducible exact Lead.asAgg _
      | with_reducible exact Lead.asAddr h _
      | with_reducible exact Lead.sureAddr _
      | with_reducible exact Lead.load _ _
      | with_reducible exact Lead.store _ _ _
      | with_reducible exact Lead.choose _
      | with_reducible exact Lead.frozen _
      | with_reducible exact Lead.askRoom _
      | with_reducible exact Lead.typeStr h _
      | with_reducible exact Lead.loadAt h _ _
      | with_reducible exact Lead.storeAt h _ _ _
      | with_reducible exact Lead.alloc h _ _ _
      | with_reducible exact Lead.box h _ _
      | with_reducible exact Lead.field h _ _ _
      | with_reducible exact Lead.index h _ _ _
      | with_reducible exact Lead.indexAt h _ _ _
      | with_reducible exact Lead.sliceBound h _ _ _
      | with_reducible exact Lead.sliceBounds h _ _ _ _ _ _
      | with_reducible exact Lead.slice h _ _ _ _ _
      | with_reducible exact Lead.sliceAt h _ _ _ _ _
      | with_reducible exact Lead.arrayAt h _ _
      | with_reducible exact Lead.makeInterface h _ _
      | with_reducible exact Lead.makeFunc h _ _ _
      | with_reducible exact Lead.extract h _ _
      | with_reducible exact Lead.buildSlice h _ _ _
      | with_reducible exact Lead.makeSlice h _ _ _
      | with_reducible exact Lead.intArith h _ _ _ _
      | with_reducible exact Lead.intDiv h _ _ _ _
      | with_reducible exact Lead.intBits h _ _ _ _
      | with_reducible exact Lead.shift h _ _ _ _ _
      | with_reducible exact Lead.intCmp h _ _ _
      | with_reducible exact Lead.stringOp h _ _ _
      | with_reducible exact Lead.unary h _ _
      | with_reducible exact Lead.len_ h _ _ _
      | with_reducible exact Lead.cap_ h _ _ _
      | with_reducible exact Lead.lenOf h _
      | with_reducible exact Lead.firstCells h _ _ _
      | with_reducible exact Lead.copy_ h _ _ _
      | with_reducible exact Lead.checkKey h _ _ _ _
      | with_reducible exact Lead.bytesToString h _
      | with_reducible exact Lead.behindNumber _
      | with_reducible exact Lead.sameAddr _ _
      | with_reducible exact Lead.samePointer _ _
      | with_reducible exact Lead.noView _
      | with_reducible exact Lead.viewAt _
      | with_reducible exact Lead.numberAt _
      | with_reducible exact Lead.equalIn h _ _ _ _
      | with_reducible exact Lead.eqGuardIn h _ _ _ _
      | with_reducible exact Lead.equal h _ _ _
      | with_reducible exact Lead.eqGuard h _ _ _ _ _ _
      | with_reducible exact Lead.floatArith h _ _ _ _
      | with_reducible exact Lead.floatCmp h _ _ _ _
      | with_reducible exact Lead.floatToFloat h _ _ _
      | with_reducible exact Lead.floatToInt h _ _ _
      | with_reducible exact Lead.cArith h _ _ _ _
      | with_reducible exact Lead.cCmp h _ _ _ _
      | with_reducible exact Lead.cConv h _ _ _
      | with_reducible refine Lead.bind ?_ (fun _ => ?_)
      | with_reducible refine Lead.map ?_
      | with_reducible refine Lead.iteH (fun _ => ?_) (fun _ => ?_)
      | split
      | dsimp only

theorem Lead.csub (h : Tab V) (x y : Nat) : Lead V (Op.Complex.sub x y) := by
    unfold Op.Complex.sub
    repeat' first
      | (with_reducible refine Lead.program ?eq_ ?_; (case eq_ => simp only [tables_holdsPacked h.tables, tables_stoodInHeld h.tables, tables_depth h.tables, tables_globals h.tables, tables_eqGuard h.tables, tables_info h.tables]))
      | (refine Lead.byteOfG h _ ?_; simp_all; done)
      | (refine Lead.byteOfG h _ ?_; simp_all; omega)
      | (with_reducible refine Lead.getObjH h _ ?gk_ (.inr ?gd_) (fun _ _ h => ?_); (case gk_ => intros; rfl); (case gd_ => intro w_; refine ⟨_, _, rfl, ?_⟩; simp [Soft]))
      | (with_reducible refine Lead.forInArray _ ?_ _ _; intro _ _)
      | (with_reducible refine Lead.forInRange _ ?_ _ _; intro _ _)
      | (with_reducible refine Lead.forInList _ ?_ _ _; intro _ _)
      | (with_reducible refine Lead.mapArray _ ?_ _; intro _)
      | (with_reducible refine Lead.foldlM _ ?_ _ _; intro _ _)
      | with_reducible assumption
      | with_reducible exact Lead.pure _
      | with_reducible exact Lead.stuck _
      | with_reducible exact Lead.unsupported _
      | with_reducible exact Lead.goPanic _

      | with_reducible exact Lead.runtimePanic h _
      | with_reducible exact Lead.boundsPanic h _ _ _ _
      | with_reducible exact Lead.underlying h _
      | with_reducible exact Lead.typeInfo h _
      | with_reducible exact Lead.zeroValue h _
      | with_reducible exact Lead.sizeOf h _
      | with_reducible exact Lead.isAgg h _
      | with_reducible exact Lead.loadCells _ _
      | with_reducible exact Lead.storeCells _ _ _
      | with_reducible exact Lead.loadVar h _ _
      | with_reducible exact Lead.storeVar h _ _ _
      | with_reducible exact Lead.newRow _ _
      | with_reducible exact Lead.newVar _ _
      | with_reducible exact Lead.elemOf h _
      | with_reducible exact Lead.part h _ _ _
      | with_reducible exact Lead.asIntOf _
      | with_reducible exact Lead.asInt _
      | with_reducible exact Lead.asBool _
      | with_reducible exact Lead.asString _
      | with_reducible exact Lead.asAgg _
      | with_reducible exact Lead.asAddr h _
      | with_reducible exact Lead.sureAddr _
      | with_reducible exact Lead.load _ _
      | with_reducible exact Lead.store _ _ _
      | with_reducible exact Lead.choose _
      | with_reducible exact Lead.frozen _
      | with_reducible exact Lead.askRoom _
      | with_reducible exact Lead.typeStr h _
      | with_reducible exact Lead.loadAt h _ _
      | with_reducible exact Lead.storeAt h _ _ _
      | with_reducible exact Lead.alloc h _ _ _
      | with_reducible exact Lead.box h _ _
      | with_reducible exact Lead.field h _ _ _
      | with_reducible exact Lead.index h _ _ _
      | with_reducible exact Lead.indexAt h _ _ _
      | with_reducible exact Lead.sliceBound h _ _ _
      | with_reducible exact Lead.sliceBounds h _ _ _ _ _ _
      | with_reducible exact Lead.slice h _ _ _ _ _
      | with_reducible exact Lead.sliceAt h _ _ _ _ _
      | with_reducible exact Lead.arrayAt h _ _
      | with_reducible exact Lead.makeInterface h _ _
      | with_reducible exact Lead.makeFunc h _ _ _
      | with_reducible exact Lead.extract h _ _
      | with_reducible exact Lead.buildSlice h _ _ _
      | with_reducible exact Lead.makeSlice h _ _ _
      | with_reducible exact Lead.intArith h _ _ _ _
      | with_reducible exact Lead.intDiv h _ _ _ _
      | with_reducible exact Lead.intBits h _ _ _ _
      | with_reducible exact Lead.shift h _ _ _ _ _
      | with_reducible exact Lead.intCmp h _ _ _
      | with_reducible exact Lead.stringOp h _ _ _
      | with_reducible exact Lead.unary h _ _
      | with_reducible exact Lead.len_ h _ _ _
      | with_reducible exact Lead.cap_ h _ _ _
      | with_reducible exact Lead.lenOf h _
      | with_reducible exact Lead.firstCells h _ _ _
      | with_reducible exact Lead.copy_ h _ _ _
      | with_reducible exact Lead.checkKey h _ _ _ _
      | with_reducible exact Lead.bytesToString h _
      | with_reducible exact Lead.behindNumber _
      | with_reducible exact Lead.sameAddr _ _
      | with_reducible exact Lead.samePointer _ _
      | with_reducible exact Lead.noView _
      | with_reducible exact Lead.viewAt _
      | with_reducible exact Lead.numberAt _
      | with_reducible exact Lead.equalIn h _ _ _ _
      | with_reducible exact Lead.eqGuardIn h _ _ _ _
      | with_reducible exact Lead.equal h _ _ _
      | with_reducible exact Lead.eqGuard h _ _ _ _ _ _
      | with_reducible exact Lead.floatArith h _ _ _ _
      | with_reducible exact Lead.floatCmp h _ _ _ _
      | with_reducible exact Lead.floatToFloat h _ _ _
      | with_reducible exact Lead.floatToInt h _ _ _
      | with_reducible exact Lead.cArith h _ _ _ _
      | with_reducible exact Lead.cCmp h _ _ _ _
      | with_reducible exact Lead.cConv h _ _ _
      | with_reducible exact Lead.cadd h _ _
      | with_reducible refine Lead.bind ?_ (fun _ => ?_)
      | with_reducible refine Lead.map ?_
      | with_reducible refine Lead.iteH (fun _ => ?_) (fun _ => ?_)
      | split
      | dsimp only

theorem Lead.cmul (h : Tab V) (x y : Nat) : Lead V (Op.Complex.mul x y) := by
    unfold Op.Complex.mul
    repeat' first
      | (with_reducible refine Lead.program ?eq_ ?_; (case eq_ => simp only [tables_holdsPacked h.tables, tables_stoodInHeld h.tables, tables_depth h.tables, tables_globals h.tables, tables_eqGuard h.tables, tables_info h.tables]))
      | (refine Lead.byteOfG h _ ?_; simp_all; done)
      | (refine Lead.byteOfG h _ ?_; simp_all; omega)
      | (with_reducible refine Lead.getObjH h _ ?gk_ (.inr ?gd_) (fun _ _ h => ?_); (case gk_ => intros; rfl); (case gd_ => intro w_; refine ⟨_, _, rfl, ?_⟩; simp [Soft]))
      | (with_reducible refine Lead.forInArray _ ?_ _ _; intro _ _)
      | (with_reducible refine Lead.forInRange _ ?_ _ _; intro _ _)
      | (with_reducible refine Lead.forInList _ ?_ _ _; intro _ _)
      | (with_reducible refine Lead.mapArray _ ?_ _; intro _)
      | (with_reducible refine Lead.foldlM _ ?_ _ _; intro _ _)
      | with_reducible assumption
      | with_reducible exact Lead.pure _
      | with_reducible exact Lead.stuck _
      | with_reducible exact Lead.unsupported _
      | with_reducible exact Lead.goPanic _

      | with_reducible exact Lead.runtimePanic h _
      | with_reducible exact Lead.boundsPanic h _ _ _ _
      | with_reducible exact Lead.underlying h _
      | with_reducible exact Lead.typeInfo h _
      | with_reducible exact Lead.zeroValue h _
      | with_reducible exact Lead.sizeOf h _
      | with_reducible exact Lead.isAgg h _
      | with_reducible exact Lead.loadCells _ _
      | with_reducible exact Lead.storeCells _ _ _
      | with_reducible exact Lead.loadVar h _ _
      | with_reducible exact Lead.storeVar h _ _ _
      | with_reducible exact Lead.newRow _ _
      | with_reducible exact Lead.newVar _ _
      | with_reducible exact Lead.elemOf h _
      | with_reducible exact Lead.part h _ _ _
      | with_reducible exact Lead.asIntOf _
      | with_reducible exact Lead.asInt _
      | with_reducible exact Lead.asBool _
      | with_reducible exact Lead.asString _
      | with_reducible exact Lead.asAgg _
      | with_reducible exact Lead.asAddr h _
      | with_reducible exact Lead.sureAddr _
      | with_reducible exact Lead.load _ _
      | with_reducible exact Lead.store _ _ _
      | with_reducible exact Lead.choose _
      | with_reducible exact Lead.frozen _
      | with_reducible exact Lead.askRoom _
      | with_reducible exact Lead.typeStr h _
      | with_reducible exact Lead.loadAt h _ _
      | with_reducible exact Lead.storeAt h _ _ _
      | with_reducible exact Lead.alloc h _ _ _
      | with_reducible exact Lead.box h _ _
      | with_reducible exact Lead.field h _ _ _
      | with_reducible exact Lead.index h _ _ _
      | with_reducible exact Lead.indexAt h _ _ _
      | with_reducible exact Lead.sliceBound h _ _ _
      | with_reducible exact Lead.sliceBounds h _ _ _ _ _ _
      | with_reducible exact Lead.slice h _ _ _ _ _
      | with_reducible exact Lead.sliceAt h _ _ _ _ _
      | with_reducible exact Lead.arrayAt h _ _
      | with_reducible exact Lead.makeInterface h _ _
      | with_reducible exact Lead.makeFunc h _ _ _
      | with_reducible exact Lead.extract h _ _
      | with_reducible exact Lead.buildSlice h _ _ _
      | with_reducible exact Lead.makeSlice h _ _ _
      | with_reducible exact Lead.intArith h _ _ _ _
      | with_reducible exact Lead.intDiv h _ _ _ _
      | with_reducible exact Lead.intBits h _ _ _ _
      | with_reducible exact Lead.shift h _ _ _ _ _
      | with_reducible exact Lead.intCmp h _ _ _
      | with_reducible exact Lead.stringOp h _ _ _
      | with_reducible exact Lead.unary h _ _
      | with_reducible exact Lead.len_ h _ _ _
      | with_reducible exact Lead.cap_ h _ _ _
      | with_reducible exact Lead.lenOf h _
      | with_reducible exact Lead.firstCells h _ _ _
      | with_reducible exact Lead.copy_ h _ _ _
      | with_reducible exact Lead.checkKey h _ _ _ _
      | with_reducible exact Lead.bytesToString h _
      | with_reducible exact Lead.behindNumber _
      | with_reducible exact Lead.sameAddr _ _
      | with_reducible exact Lead.samePointer _ _
      | with_reducible exact Lead.noView _
      | with_reducible exact Lead.viewAt _
      | with_reducible exact Lead.numberAt _
      | with_reducible exact Lead.equalIn h _ _ _ _
      | with_reducible exact Lead.eqGuardIn h _ _ _ _
      | with_reducible exact Lead.equal h _ _ _
      | with_reducible exact Lead.eqGuard h _ _ _ _ _ _
      | with_reducible exact Lead.floatArith h _ _ _ _
      | with_reducible exact Lead.floatCmp h _ _ _ _
      | with_reducible exact Lead.floatToFloat h _ _ _
      | with_reducible exact Lead.floatToInt h _ _ _
      | with_reducible exact Lead.cArith h _ _ _ _
      | with_reducible exact Lead.cCmp h _ _ _ _
      | with_reducible exact Lead.cConv h _ _ _
      | with_reducible exact Lead.cadd h _ _
      | with_reducible exact Lead.csub h _ _
      | with_reducible refine Lead.bind ?_ (fun _ => ?_)
      | with_reducible refine Lead.map ?_
      | with_reducible refine Lead.iteH (fun _ => ?_) (fun _ => ?_)
      | split
      | dsimp only

theorem Lead.cquo (h : Tab V) (x y : Nat) : Lead V (Op.Complex.quo x y) := by
    unfold Op.Complex.quo
    repeat' first
      | (with_reducible refine Lead.program ?eq_ ?_; (case eq_ => simp only [tables_holdsPacked h.tables, tables_stoodInHeld h.tables, tables_depth h.tables, tables_globals h.tables, tables_eqGuard h.tables, tables_info h.tables]))
      | (refine Lead.byteOfG h _ ?_; simp_all; done)
      | (refine Lead.byteOfG h _ ?_; simp_all; omega)
      | (with_reducible refine Lead.getObjH h _ ?gk_ (.inr ?gd_) (fun _ _ h => ?_); (case gk_ => intros; rfl); (case gd_ => intro w_; refine ⟨_, _, rfl, ?_⟩; simp [Soft]))
      | (with_reducible refine Lead.forInArray _ ?_ _ _; intro _ _)
      | (with_reducible refine Lead.forInRange _ ?_ _ _; intro _ _)
      | (with_reducible refine Lead.forInList _ ?_ _ _; intro _ _)
      | (with_reducible refine Lead.mapArray _ ?_ _; intro _)
      | (with_reducible refine Lead.foldlM _ ?_ _ _; intro _ _)
      | with_reducible assumption
      | with_reducible exact Lead.pure _
      | with_reducible exact Lead.stuck _
      | with_reducible exact Lead.unsupported _
      | with_reducible exact Lead.goPanic _

      | with_reducible exact Lead.runtimePanic h _
      | with_reducible exact Lead.boundsPanic h _ _ _ _
      | with_reducible exact Lead.underlying h _
      | with_reducible exact Lead.typeInfo h _
      | with_reducible exact Lead.zeroValue h _
      | with_reducible exact Lead.sizeOf h _
      | with_reducible exact Lead.isAgg h _
      | with_reducible exact Lead.loadCells _ _
      | with_reducible exact Lead.storeCells _ _ _
      | with_reducible exact Lead.loadVar h _ _
      | with_reducible exact Lead.storeVar h _ _ _
      | with_reducible exact Lead.newRow _ _
      | with_reducible exact Lead.newVar _ _
      | with_reducible exact Lead.elemOf h _
      | with_reducible exact Lead.part h _ _ _
      | with_reducible exact Lead.asIntOf _
      | with_reducible exact Lead.asInt _
      | with_reducible exact Lead.asBool _
      | with_reducible exact Lead.asString _
      | with_reducible exact Lead.asAgg _
      | with_reducible exact Lead.asAddr h _
      | with_reducible exact Lead.sureAddr _
      | with_reducible exact Lead.load _ _
      | with_reducible exact Lead.store _ _ _
      | with_reducible exact Lead.choose _
      | with_reducible exact Lead.frozen _
      | with_reducible exact Lead.askRoom _
      | with_reducible exact Lead.typeStr h _
      | with_reducible exact Lead.loadAt h _ _
      | with_reducible exact Lead.storeAt h _ _ _
      | with_reducible exact Lead.alloc h _ _ _
      | with_reducible exact Lead.box h _ _
      | with_reducible exact Lead.field h _ _ _
      | with_reducible exact Lead.index h _ _ _
      | with_reducible exact Lead.indexAt h _ _ _
      | with_reducible exact Lead.sliceBound h _ _ _
      | with_reducible exact Lead.sliceBounds h _ _ _ _ _ _
      | with_reducible exact Lead.slice h _ _ _ _ _
      | with_reducible exact Lead.sliceAt h _ _ _ _ _
      | with_reducible exact Lead.arrayAt h _ _
      | with_reducible exact Lead.makeInterface h _ _
      | with_reducible exact Lead.makeFunc h _ _ _
      | with_reducible exact Lead.extract h _ _
      | with_reducible exact Lead.buildSlice h _ _ _
      | with_reducible exact Lead.makeSlice h _ _ _
      | with_reducible exact Lead.intArith h _ _ _ _
      | with_reducible exact Lead.intDiv h _ _ _ _
      | with_reducible exact Lead.intBits h _ _ _ _
      | with_reducible exact Lead.shift h _ _ _ _ _
      | with_reducible exact Lead.intCmp h _ _ _
      | with_reducible exact Lead.stringOp h _ _ _
      | with_reducible exact Lead.unary h _ _
      | with_reducible exact Lead.len_ h _ _ _
      | with_reducible exact Lead.cap_ h _ _ _
      | with_reducible exact Lead.lenOf h _
      | with_reducible exact Lead.firstCells h _ _ _
      | with_reducible exact Lead.copy_ h _ _ _
      | with_reducible exact Lead.checkKey h _ _ _ _
      | with_reducible exact Lead.bytesToString h _
      | with_reducible exact Lead.behindNumber _
      | with_reducible exact Lead.sameAddr _ _
      | with_reducible exact Lead.samePointer _ _
      | with_reducible exact Lead.noView _
      | with_reducible exact Lead.viewAt _
      | with_reducible exact Lead.numberAt _
      | with_reducible exact Lead.equalIn h _ _ _ _
      | with_reducible exact Lead.eqGuardIn h _ _ _ _
      | with_reducible exact Lead.equal h _ _ _
      | with_reducible exact Lead.eqGuard h _ _ _ _ _ _
      | with_reducible exact Lead.floatArith h _ _ _ _
      | with_reducible exact Lead.floatCmp h _ _ _ _
      | with_reducible exact Lead.floatToFloat h _ _ _
      | with_reducible exact Lead.floatToInt h _ _ _
      | with_reducible exact Lead.cArith h _ _ _ _
      | with_reducible exact Lead.cCmp h _ _ _ _
      | with_reducible exact Lead.cConv h _ _ _
      | with_reducible exact Lead.cadd h _ _
      | with_reducible exact Lead.csub h _ _
      | with_reducible exact Lead.cmul h _ _
      | with_reducible refine Lead.bind ?_ (fun _ => ?_)
      | with_reducible refine Lead.map ?_
      | with_reducible refine Lead.iteH (fun _ => ?_) (fun _ => ?_)
      | split
      | dsimp only

theorem Lead.cProduct (h : Tab V) (a b c d : Nat) : Lead V (Op.Complex.product a b c d) := by
    unfold Op.Complex.product
    repeat' first
      | (with_reducible refine Lead.program ?eq_ ?_; (case eq_ => simp only [tables_holdsPacked h.tables, tables_stoodInHeld h.tables, tables_depth h.tables, tables_globals h.tables, tables_eqGuard h.tables, tables_info h.tables]))
      | (refine Lead.byteOfG h _ ?_; simp_all; done)
      | (refine Lead.byteOfG h _ ?_; simp_all; omega)
      | (with_reducible refine Lead.getObjH h _ ?gk_ (.inr ?gd_) (fun _ _ h => ?_); (case gk_ => intros; rfl); (case gd_ => intro w_; refine ⟨_, _, rfl, ?_⟩; simp [Soft]))
      | (with_reducible refine Lead.forInArray _ ?_ _ _; intro _ _)
      | (with_reducible refine Lead.forInRange _ ?_ _ _; intro _ _)
      | (with_reducible refine Lead.forInList _ ?_ _ _; intro _ _)
      | (with_reducible refine Lead.mapArray _ ?_ _; intro _)
      | (with_reducible refine Lead.foldlM _ ?_ _ _; intro _ _)
      | with_reducible assumption
      | with_reducible exact Lead.pure _
      | with_reducible exact Lead.stuck _
      | with_reducible exact Lead.unsupported _
      | with_reducible exact Lead.goPanic _

      | with_reducible exact Lead.runtimePanic h _
      | with_reducible exact Lead.boundsPanic h _ _ _ _
      | with_reducible exact Lead.underlying h _
      | with_reducible exact Lead.typeInfo h _
      | with_reducible exact Lead.zeroValue h _
      | with_reducible exact Lead.sizeOf h _
      | with_reducible exact Lead.isAgg h _
      | with_reducible exact Lead.loadCells _ _
      | with_reducible exact Lead.storeCells _ _ _
      | with_reducible exact Lead.loadVar h _ _
      | with_reducible exact Lead.storeVar h _ _ _
      | with_reducible exact Lead.newRow _ _
      | with_reducible exact Lead.newVar _ _
      | with_reducible exact Lead.elemOf h _
      | with_reducible exact Lead.part h _ _ _
      | with_reducible exact Lead.asIntOf _
      | with_reducible exact Lead.asInt _
      | with_reducible exact Lead.asBool _
      | with_reducible exact Lead.asString _
      | with_reducible exact Lead.asAgg _
      | with_reducible exact Lead.asAddr h _
      | with_reducible exact Lead.sureAddr _
      | with_reducible exact Lead.load _ _
      | with_reducible exact Lead.store _ _ _
      | with_reducible exact Lead.choose _
      | with_reducible exact Lead.frozen _
      | with_reducible exact Lead.askRoom _
      | with_reducible exact Lead.typeStr h _
      | with_reducible exact Lead.loadAt h _ _
      | with_reducible exact Lead.storeAt h _ _ _
      | with_reducible exact Lead.alloc h _ _ _
      | with_reducible exact Lead.box h _ _
      | with_reducible exact Lead.field h _ _ _
      | with_reducible exact Lead.index h _ _ _
      | with_reducible exact Lead.indexAt h _ _ _
      | with_reducible exact Lead.sliceBound h _ _ _
      | with_reducible exact Lead.sliceBounds h _ _ _ _ _ _
      | with_reducible exact Lead.slice h _ _ _ _ _
      | with_reducible exact Lead.sliceAt h _ _ _ _ _
      | with_reducible exact Lead.arrayAt h _ _
      | with_reducible exact Lead.makeInterface h _ _
      | with_reducible exact Lead.makeFunc h _ _ _
      | with_reducible exact Lead.extract h _ _
      | with_reducible exact Lead.buildSlice h _ _ _
      | with_reducible exact Lead.makeSlice h _ _ _
      | with_reducible exact Lead.intArith h _ _ _ _
      | with_reducible exact Lead.intDiv h _ _ _ _
      | with_reducible exact Lead.intBits h _ _ _ _
      | with_reducible exact Lead.shift h _ _ _ _ _
      | with_reducible exact Lead.intCmp h _ _ _
      | with_reducible exact Lead.stringOp h _ _ _
      | with_reducible exact Lead.unary h _ _
      | with_reducible exact Lead.len_ h _ _ _
      | with_reducible exact Lead.cap_ h _ _ _
      | with_reducible exact Lead.lenOf h _
      | with_reducible exact Lead.firstCells h _ _ _
      | with_reducible exact Lead.copy_ h _ _ _
      | with_reducible exact Lead.checkKey h _ _ _ _
      | with_reducible exact Lead.bytesToString h _
      | with_reducible exact Lead.behindNumber _
      | with_reducible exact Lead.sameAddr _ _
      | with_reducible exact Lead.samePointer _ _
      | with_reducible exact Lead.noView _
      | with_reducible exact Lead.viewAt _
      | with_reducible exact Lead.numberAt _
      | with_reducible exact Lead.equalIn h _ _ _ _
      | with_reducible exact Lead.eqGuardIn h _ _ _ _
      | with_reducible exact Lead.equal h _ _ _
      | with_reducible exact Lead.eqGuard h _ _ _ _ _ _
      | with_reducible exact Lead.floatArith h _ _ _ _
      | with_reducible exact Lead.floatCmp h _ _ _ _
      | with_reducible exact Lead.floatToFloat h _ _ _
      | with_reducible exact Lead.floatToInt h _ _ _
      | with_reducible exact Lead.cArith h _ _ _ _
      | with_reducible exact Lead.cCmp h _ _ _ _
      | with_reducible exact Lead.cConv h _ _ _
      | with_reducible exact Lead.cadd h _ _
      | with_reducible exact Lead.csub h _ _
      | with_reducible exact Lead.cmul h _ _
      | with_reducible exact Lead.cquo h _ _
      | with_reducible refine Lead.bind ?_ (fun _ => ?_)
      | with_reducible refine Lead.map ?_
      | with_reducible refine Lead.iteH (fun _ => ?_) (fun _ => ?_)
      | split
      | dsimp only

theorem Lead.cCorrected (h : Tab V) (s a b c d : Nat) : Lead V (Op.Complex.corrected s a b c d) := by
    unfold Op.Complex.corrected
    repeat' first
      | (with_reducible refine Lead.program ?eq_ ?_; (case eq_ => simp only [tables_holdsPacked h.tables, tables_stoodInHeld h.tables, tables_depth h.tables, tables_globals h.tables, tables_eqGuard h.tables, tables_info h.tables]))
      | (refine Lead.byteOfG h _ ?_; simp_all; done)
      | (refine Lead.byteOfG h _ ?_; simp_all; omega)
      | (with_reducible refine Lead.getObjH h _ ?gk_ (.inr ?gd_) (fun _ _ h => ?_); (case gk_ => intros; rfl); (case gd_ => intro w_; refine ⟨_, _, rfl, ?_⟩; simp [Soft]))
      | (with_reducible refine Lead.forInArray _ ?_ _ _; intro _ _)
      | (with_reducible refine Lead.forInRange _ ?_ _ _; intro _ _)
      | (with_reducible refine Lead.forInList _ ?_ _ _; intro _ _)
      | (with_reducible refine Lead.mapArray _ ?_ _; intro _)
      | (with_reducible refine Lead.foldlM _ ?_ _ _; intro _ _)
      | with_reducible assumption
      | with_reducible exact Lead.pure _
      | with_reducible exact Lead.stuck _
      | with_reducible exact Lead.unsupported _
      | with_reducible exact Lead.goPanic _

      | with_reducible exact Lead.runtimePanic h _
      | with_reducible exact Lead.boundsPanic h _ _ _ _
      | with_reducible exact Lead.underlying h _
      | with_reducible exact Lead.typeInfo h _
      | with_reducible exact Lead.zeroValue h _
      | with_reducible exact Lead.sizeOf h _
      | with_reducible exact Lead.isAgg h _
      | with_reducible exact Lead.loadCells _ _
      | with_reducible exact Lead.storeCells _ _ _
      | with_reducible exact Lead.loadVar h _ _
      | with_reducible exact Lead.storeVar h _ _ _
      | with_reducible exact Lead.newRow _ _
      | with_reducible exact Lead.newVar _ _
      | with_reducible exact Lead.elemOf h _
      | with_reducible exact Lead.part h _ _ _
      | with_reducible exact Lead.asIntOf _
      | with_reducible exact Lead.asInt _
      | with_reducible exact Lead.asBool _
      | with_reducible exact Lead.asString _
      | with_reducible exact Lead.asAgg _
      | with_reducible exact Lead.asAddr h _
      | with_reducible exact Lead.sureAddr _
      | with_reducible exact Lead.load _ _
      | with_reducible exact Lead.store _ _ _
      | with_reducible exact Lead.choose _
      | with_reducible exact Lead.frozen _
      | with_reducible exact Lead.askRoom _
      | with_reducible exact Lead.typeStr h _
      | with_reducible exact Lead.loadAt h _ _
      | with_reducible exact Lead.storeAt h _ _ _
      | with_reducible exact Lead.alloc h _ _ _
      | with_reducible exact Lead.box h _ _
      | with_reducible exact Lead.field h _ _ _
      | with_reducible exact Lead.index h _ _ _
      | with_reducible exact Lead.indexAt h _ _ _
      | with_reducible exact Lead.sliceBound h _ _ _
      | with_reducible exact Lead.sliceBounds h _ _ _ _ _ _
      | with_reducible exact Lead.slice h _ _ _ _ _
      | with_reducible exact Lead.sliceAt h _ _ _ _ _
      | with_reducible exact Lead.arrayAt h _ _
      | with_reducible exact Lead.makeInterface h _ _
      | with_reducible exact Lead.makeFunc h _ _ _
      | with_reducible exact Lead.extract h _ _
      | with_reducible exact Lead.buildSlice h _ _ _
      | with_reducible exact Lead.makeSlice h _ _ _
      | with_reducible exact Lead.intArith h _ _ _ _
      | with_reducible exact Lead.intDiv h _ _ _ _
      | with_reducible exact Lead.intBits h _ _ _ _
      | with_reducible exact Lead.shift h _ _ _ _ _
      | with_reducible exact Lead.intCmp h _ _ _
      | with_reducible exact Lead.stringOp h _ _ _
      | with_reducible exact Lead.unary h _ _
      | with_reducible exact Lead.len_ h _ _ _
      | with_reducible exact Lead.cap_ h _ _ _
      | with_reducible exact Lead.lenOf h _
      | with_reducible exact Lead.firstCells h _ _ _
      | with_reducible exact Lead.copy_ h _ _ _
      | with_reducible exact Lead.checkKey h _ _ _ _
      | with_reducible exact Lead.bytesToString h _
      | with_reducible exact Lead.behindNumber _
      | with_reducible exact Lead.sameAddr _ _
      | with_reducible exact Lead.samePointer _ _
      | with_reducible exact Lead.noView _
      | with_reducible exact Lead.viewAt _
      | with_reducible exact Lead.numberAt _
      | with_reducible exact Lead.equalIn h _ _ _ _
      | with_reducible exact Lead.eqGuardIn h _ _ _ _
      | with_reducible exact Lead.equal h _ _ _
      | with_reducible exact Lead.eqGuard h _ _ _ _ _ _
      | with_reducible exact Lead.floatArith h _ _ _ _
      | with_reducible exact Lead.floatCmp h _ _ _ _
      | with_reducible exact Lead.floatToFloat h _ _ _
      | with_reducible exact Lead.floatToInt h _ _ _
      | with_reducible exact Lead.cArith h _ _ _ _
      | with_reducible exact Lead.cCmp h _ _ _ _
      | with_reducible exact Lead.cConv h _ _ _
      | with_reducible exact Lead.cadd h _ _
      | with_reducible exact Lead.csub h _ _
      | with_reducible exact Lead.cmul h _ _
      | with_reducible exact Lead.cquo h _ _
      | with_reducible exact Lead.cProduct h _ _ _ _
      | with_reducible refine Lead.bind ?_ (fun _ => ?_)
      | with_reducible refine Lead.map ?_
      | with_reducible refine Lead.iteH (fun _ => ?_) (fun _ => ?_)
      | split
      | dsimp only

theorem Lead.cQuotient (h : Tab V) (a b c d : Nat) : Lead V (Op.Complex.quotient a b c d) := by
    unfold Op.Complex.quotient
    repeat' first
      | (with_reducible refine Lead.program ?eq_ ?_; (case eq_ => simp only [tables_holdsPacked h.tables, tables_stoodInHeld h.tables, tables_depth h.tables, tables_globals h.tables, tables_eqGuard h.tables, tables_info h.tables]))
      | (refine Lead.byteOfG h _ ?_; simp_all; done)
      | (refine Lead.byteOfG h _ ?_; simp_all; omega)
      | (with_reducible refine Lead.getObjH h _ ?gk_ (.inr ?gd_) (fun _ _ h => ?_); (case gk_ => intros; rfl); (case gd_ => intro w_; refine ⟨_, _, rfl, ?_⟩; simp [Soft]))
      | (with_reducible refine Lead.forInArray _ ?_ _ _; intro _ _)
      | (with_reducible refine Lead.forInRange _ ?_ _ _; intro _ _)
      | (with_reducible refine Lead.forInList _ ?_ _ _; intro _ _)
      | (with_reducible refine Lead.mapArray _ ?_ _; intro _)
      | (with_reducible refine Lead.foldlM _ ?_ _ _; intro _ _)
      | with_reducible assumption
      | with_reducible exact Lead.pure _
      | with_reducible exact Lead.stuck _
      | with_reducible exact Lead.unsupported _
      | with_reducible exact Lead.goPanic _

      | with_reducible exact Lead.runtimePanic h _
      | with_reducible exact Lead.boundsPanic h _ _ _ _
      | with_reducible exact Lead.underlying h _
      | with_reducible exact Lead.typeInfo h _
      | with_reducible exact Lead.zeroValue h _
      | with_reducible exact Lead.sizeOf h _
      | with_reducible exact Lead.isAgg h _
      | with_reducible exact Lead.loadCells _ _
      | with_reducible exact Lead.storeCells _ _ _
      | with_reducible exact Lead.loadVar h _ _
      | with_reducible exact Lead.storeVar h _ _ _
      | with_reducible exact Lead.newRow _ _
      | with_reducible exact Lead.newVar _ _
      | with_reducible exact Lead.elemOf h _
      | with_reducible exact Lead.part h _ _ _
      | with_reducible exact Lead.asIntOf _
      | with_reducible exact Lead.asInt _
      | with_reducible exact Lead.asBool _
      | with_reducible exact Lead.asString _
      | with_reducible exact Lead.asAgg _
      | with_reducible exact Lead.asAddr h _
      | with_reducible exact Lead.sureAddr _
      | with_reducible exact Lead.load _ _
      | with_reducible exact Lead.store _ _ _
      | with_reducible exact Lead.choose _
      | with_reducible exact Lead.frozen _
      | with_reducible exact Lead.askRoom _
      | with_reducible exact Lead.typeStr h _
      | with_reducible exact Lead.loadAt h _ _
      | with_reducible exact Lead.storeAt h _ _ _
      | with_reducible exact Lead.alloc h _ _ _
      | with_reducible exact Lead.box h _ _
      | with_reducible exact Lead.field h _ _ _
      | with_reducible exact Lead.index h _ _ _
      | with_reducible exact Lead.indexAt h _ _ _
      | with_reducible exact Lead.sliceBound h _ _ _
      | with_reducible exact Lead.sliceBounds h _ _ _ _ _ _
      | with_reducible exact Lead.slice h _ _ _ _ _
      | with_reducible exact Lead.sliceAt h _ _ _ _ _
      | with_reducible exact Lead.arrayAt h _ _
      | with_reducible exact Lead.makeInterface h _ _
      | with_reducible exact Lead.makeFunc h _ _ _
      | with_reducible exact Lead.extract h _ _
      | with_reducible exact Lead.buildSlice h _ _ _
      | with_reducible exact Lead.makeSlice h _ _ _
      | with_reducible exact Lead.intArith h _ _ _ _
      | with_reducible exact Lead.intDiv h _ _ _ _
      | with_reducible exact Lead.intBits h _ _ _ _
      | with_reducible exact Lead.shift h _ _ _ _ _
      | with_reducible exact Lead.intCmp h _ _ _
      | with_reducible exact Lead.stringOp h _ _ _
      | with_reducible exact Lead.unary h _ _
      | with_reducible exact Lead.len_ h _ _ _
      | with_reducible exact Lead.cap_ h _ _ _
      | with_reducible exact Lead.lenOf h _
      | with_reducible exact Lead.firstCells h _ _ _
      | with_reducible exact Lead.copy_ h _ _ _
      | with_reducible exact Lead.checkKey h _ _ _ _
      | with_reducible exact Lead.bytesToString h _
      | with_reducible exact Lead.behindNumber _
      | with_reducible exact Lead.sameAddr _ _
      | with_reducible exact Lead.samePointer _ _
      | with_reducible exact Lead.noView _
      | with_reducible exact Lead.viewAt _
      | with_reducible exact Lead.numberAt _
      | with_reducible exact Lead.equalIn h _ _ _ _
      | with_reducible exact Lead.eqGuardIn h _ _ _ _
      | with_reducible exact Lead.equal h _ _ _
      | with_reducible exact Lead.eqGuard h _ _ _ _ _ _
      | with_reducible exact Lead.floatArith h _ _ _ _
      | with_reducible exact Lead.floatCmp h _ _ _ _
      | with_reducible exact Lead.floatToFloat h _ _ _
      | with_reducible exact Lead.floatToInt h _ _ _
      | with_reducible exact Lead.cArith h _ _ _ _
      | with_reducible exact Lead.cCmp h _ _ _ _
      | with_reducible exact Lead.cConv h _ _ _
      | with_reducible exact Lead.cadd h _ _
      | with_reducible exact Lead.csub h _ _
      | with_reducible exact Lead.cmul h _ _
      | with_reducible exact Lead.cquo h _ _
      | with_reducible exact Lead.cProduct h _ _ _ _
      | with_reducible exact Lead.cCorrected h _ _ _ _ _
      | with_reducible refine Lead.bind ?_ (fun _ => ?_)
      | with_reducible refine Lead.map ?_
      | with_reducible refine Lead.iteH (fun _ => ?_) (fun _ => ?_)
      | split
      | dsimp only

theorem Lead.complexOp (h : Tab V) (o : BinOp) (k : FloatKind) (a b c d : Nat) : Lead V (Op.complexOp o k a b c d) := by
    unfold Op.complexOp
    repeat' first
      | (with_reducible refine Lead.program ?eq_ ?_; (case eq_ => simp only [tables_holdsPacked h.tables, tables_stoodInHeld h.tables, tables_depth h.tables, tables_globals h.tables, tables_eqGuard h.tables, tables_info h.tables]))
      | (refine Lead.byteOfG h _ ?_; simp_all; done)
      | (refine Lead.byteOfG h _ ?_; simp_all; omega)
      | (with_reducible refine Lead.getObjH h _ ?gk_ (.inr ?gd_) (fun _ _ h => ?_); (case gk_ => intros; rfl); (case gd_ => intro w_; refine ⟨_, _, rfl, ?_⟩; simp [Soft]))
      | (with_reducible refine Lead.forInArray _ ?_ _ _; intro _ _)
      | (with_reducible refine Lead.forInRange _ ?_ _ _; intro _ _)
      | (with_reducible refine Lead.forInList _ ?_ _ _; intro _ _)
      | (with_reducible refine Lead.mapArray _ ?_ _; intro _)
      | (with_reducible refine Lead.foldlM _ ?_ _ _; intro _ _)
      | with_reducible assumption
      | with_reducible exact Lead.pure _
      | with_reducible exact Lead.stuck _
      | with_reducible exact Lead.unsupported _
      | with_reducible exact Lead.goPanic _

      | with_reducible exact Lead.runtimePanic h _
      | with_reducible exact Lead.boundsPanic h _ _ _ _
      | with_reducible exact Lead.underlying h _
      | with_reducible exact Lead.typeInfo h _
      | with_reducible exact Lead.zeroValue h _
      | with_reducible exact Lead.sizeOf h _
      | with_reducible exact Lead.isAgg h _
      | with_reducible exact Lead.loadCells _ _
      | with_reducible exact Lead.storeCells _ _ _
      | with_reducible exact Lead.loadVar h _ _
      | with_reducible exact Lead.storeVar h _ _ _
      | with_reducible exact Lead.newRow _ _
      | with_reducible exact Lead.newVar _ _
      | with_reducible exact Lead.elemOf h _
      | with_reducible exact Lead.part h _ _ _
      | with_reducible exact Lead.asIntOf _
      | with_reducible exact Lead.asInt _
      | with_reducible exact Lead.asBool _
      | with_reducible exact Lead.asString _
      | with_reducible exact Lead.asAgg _
      | with_reducible exact Lead.asAddr h _
      | with_reducible exact Lead.sureAddr _
      | with_reducible exact Lead.load _ _
      | with_reducible exact Lead.store _ _ _
      | with_reducible exact Lead.choose _
      | with_reducible exact Lead.frozen _
      | with_reducible exact Lead.askRoom _
      | with_reducible exact Lead.typeStr h _
      | with_reducible exact Lead.loadAt h _ _
      | with_reducible exact Lead.storeAt h _ _ _
      | with_reducible exact Lead.alloc h _ _ _
      | with_reducible exact Lead.box h _ _
      | with_reducible exact Lead.field h _ _ _
      | with_reducible exact Lead.index h _ _ _
      | with_reducible exact Lead.indexAt h _ _ _
      | with_reducible exact Lead.sliceBound h _ _ _
      | with_reducible exact Lead.sliceBounds h _ _ _ _ _ _
      | with_reducible exact Lead.slice h _ _ _ _ _
      | with_reducible exact Lead.sliceAt h _ _ _ _ _
      | with_reducible exact Lead.arrayAt h _ _
      | with_reducible exact Lead.makeInterface h _ _
      | with_reducible exact Lead.makeFunc h _ _ _
      | with_reducible exact Lead.extract h _ _
      | with_reducible exact Lead.buildSlice h _ _ _
      | with_reducible exact Lead.makeSlice h _ _ _
      | with_reducible exact Lead.intArith h _ _ _ _
      | with_reducible exact Lead.intDiv h _ _ _ _
      | with_reducible exact Lead.intBits h _ _ _ _
      | with_reducible exact Lead.shift h _ _ _ _ _
      | with_reducible exact Lead.intCmp h _ _ _
      | with_reducible exact Lead.stringOp h _ _ _
      | with_reducible exact Lead.unary h _ _
      | with_reducible exact Lead.len_ h _ _ _
      | with_reducible exact Lead.cap_ h _ _ _
      | with_reducible exact Lead.lenOf h _
      | with_reducible exact Lead.firstCells h _ _ _
      | with_reducible exact Lead.copy_ h _ _ _
      | with_reducible exact Lead.checkKey h _ _ _ _
      | with_reducible exact Lead.bytesToString h _
      | with_reducible exact Lead.behindNumber _
      | with_reducible exact Lead.sameAddr _ _
      | with_reducible exact Lead.samePointer _ _
      | with_reducible exact Lead.noView _
      | with_reducible exact Lead.viewAt _
      | with_reducible exact Lead.numberAt _
      | with_reducible exact Lead.equalIn h _ _ _ _
      | with_reducible exact Lead.eqGuardIn h _ _ _ _
      | with_reducible exact Lead.equal h _ _ _
      | with_reducible exact Lead.eqGuard h _ _ _ _ _ _
      | with_reducible exact Lead.floatArith h _ _ _ _
      | with_reducible exact Lead.floatCmp h _ _ _ _
      | with_reducible exact Lead.floatToFloat h _ _ _
      | with_reducible exact Lead.floatToInt h _ _ _
      | with_reducible exact Lead.cArith h _ _ _ _
      | with_reducible exact Lead.cCmp h _ _ _ _
      | with_reducible exact Lead.cConv h _ _ _
      | with_reducible exact Lead.cadd h _ _
      | with_reducible exact Lead.csub h _ _
      | with_reducible exact Lead.cmul h _ _
      | with_reducible exact Lead.cquo h _ _
      | with_reducible exact Lead.cProduct h _ _ _ _
      | with_reducible exact Lead.cCorrected h _ _ _ _ _
      | with_reducible exact Lead.cQuotient h _ _ _ _
      | with_reducible refine Lead.bind ?_ (fun _ => ?_)
      | with_reducible refine Lead.map ?_
      | with_reducible refine Lead.iteH (fun _ => ?_) (fun _ => ?_)
      | split
      | dsimp only

theorem Lead.complexToComplex (h : Tab V) (k : FloatKind) (a b : Nat) (d : FloatKind) : Lead V (Conv.complexToComplex k a b d) := by
    unfold Conv.complexToComplex
    repeat' first
      | (with_reducible refine Lead.getObjH h _ ?gk_ (.inr ?gd_) (fun _ _ h => ?_); (case gk_ => intros; rfl); (case gd_ => intro w_; refine ⟨_, _, rfl, ?_⟩; simp [Soft]))
      | (with_reducible refine Lead.forInArray _ ?_ _ _; intro _ _)
      | (with_reducible refine Lead.forInRange _ ?_ _ _; intro _ _)
      | (with_reducible refine Lead.forInList _ ?_ _ _; intro _ _)
      | (with_reducible refine Lead.mapArray _ ?_ _; intro _)
      | (with_reducible refine Lead.foldlM _ ?_ _ _; intro _ _)
      | with_reducible assumption
      | with_reducible exact Lead.pure _
      | with_reducible exact Lead.stuck _
      | with_reducible exact Lead.unsupported _
      | with_reducible exact Lead.goPanic _
      | with_reducible exact Lead.floatToFloat h _ _ _
      | with_reducible refine Lead.bind ?_ (fun _ => ?_)
      | with_reducible refine Lead.map ?_
      | with_reducible refine Lead.iteH (fun _ => ?_) (fun _ => ?_)
      | split
      | dsimp only

theorem Lead.max2 (h : Tab V) (a b : Value) : Lead V (Builtin.max2 a b) := by
    unfold Builtin.max2
    repeat' first
      | (with_reducible refine Lead.getObjH h _ ?gk_ (.inr ?gd_) (fun _ _ h => ?_); (case gk_ => intros; rfl); (case gd_ => intro w_; refine ⟨_, _, rfl, ?_⟩; simp [Soft]))
      | (with_reducible refine Lead.forInArray _ ?_ _ _; intro _ _)
      | (with_reducible refine Lead.forInRange _ ?_ _ _; intro _ _)
      | (with_reducible refine Lead.forInList _ ?_ _ _; intro _ _)
      | (with_reducible refine Lead.mapArray _ ?_ _; intro _)
      | (with_reducible refine Lead.foldlM _ ?_ _ _; intro _ _)
      | with_reducible assumption
      | with_reducible exact Lead.pure _
      | with_reducible exact Lead.stuck _
      | with_reducible exact Lead.unsupported _
      | with_reducible exact Lead.goPanic _
      | with_reducible exact Lead.asBool _
      | with_reducible exact Lead.choose _
      | with_reducible exact Lead.stringOp h _ _ _
      | with_reducible refine Lead.bind ?_ (fun _ => ?_)
      | with_reducible refine Lead.map ?_
      | with_reducible refine Lead.iteH (fun _ => ?_) (fun _ => ?_)
      | split
      | dsimp only

theorem Lead.min2 (h : Tab V) (a b : Value) : Lead V (Builtin.min2 a b) := by
    unfold Builtin.min2
    repeat' first
      | (with_reducible refine Lead.getObjH h _ ?gk_ (.inr ?gd_) (fun _ _ h => ?_); (case gk_ => intros; rfl); (case gd_ => intro w_; refine ⟨_, _, rfl, ?_⟩; simp [Soft]))
      | (with_reducible refine Lead.forInArray _ ?_ _ _; intro _ _)
      | (with_reducible refine Lead.forInRange _ ?_ _ _; intro _ _)
      | (with_reducible refine Lead.forInList _ ?_ _ _; intro _ _)
      | (with_reducible refine Lead.mapArray _ ?_ _; intro _)
      | (with_reducible refine Lead.foldlM _ ?_ _ _; intro _ _)
      | with_reducible assumption
      | with_reducible exact Lead.pure _
      | with_reducible exact Lead.stuck _
      | with_reducible exact Lead.unsupported _
      | with_reducible exact Lead.goPanic _
      | with_reducible exact Lead.asBool _
      | with_reducible exact Lead.choose _
      | with_reducible exact Lead.stringOp h _ _ _
      | with_reducible refine Lead.bind ?_ (fun _ => ?_)
      | with_reducible refine Lead.map ?_
      | with_reducible refine Lead.iteH (fun _ => ?_) (fun _ => ?_)
      | split
      | dsimp only

theorem Lead.max_ (h : Tab V) (a : Array TypeId) (t : TypeId) (x : Array Value) : Lead V (Builtin.max_ a t x) := by
    unfold Builtin.max_
    repeat' first
      | (with_reducible refine Lead.getObjH h _ ?gk_ (.inr ?gd_) (fun _ _ h => ?_); (case gk_ => intros; rfl); (case gd_ => intro w_; refine ⟨_, _, rfl, ?_⟩; simp [Soft]))
      | (with_reducible refine Lead.forInArray _ ?_ _ _; intro _ _)
      | (with_reducible refine Lead.forInRange _ ?_ _ _; intro _ _)
      | (with_reducible refine Lead.forInList _ ?_ _ _; intro _ _)
      | (with_reducible refine Lead.mapArray _ ?_ _; intro _)
      | (with_reducible refine Lead.foldlM _ ?_ _ _; intro _ _)
      | with_reducible assumption
      | with_reducible exact Lead.pure _
      | with_reducible exact Lead.stuck _
      | with_reducible exact Lead.unsupported _
      | with_reducible exact Lead.goPanic _
      | with_reducible exact Lead.max2 h _ _
      | with_reducible refine Lead.bind ?_ (fun _ => ?_)
      | with_reducible refine Lead.map ?_
      | with_reducible refine Lead.iteH (fun _ => ?_) (fun _ => ?_)
      | split
      | dsimp only

theorem Lead.min_ (h : Tab V) (a : Array TypeId) (t : TypeId) (x : Array Value) : Lead V (Builtin.min_ a t x) := by
    unfold Builtin.min_
    repeat' first
      | (with_reducible refine Lead.getObjH h _ ?gk_ (.inr ?gd_) (fun _ _ h => ?_); (case gk_ => intros; rfl); (case gd_ => intro w_; refine ⟨_, _, rfl, ?_⟩; simp [Soft]))
      | (with_reducible refine Lead.forInArray _ ?_ _ _; intro _ _)
      | (with_reducible refine Lead.forInRange _ ?_ _ _; intro _ _)
      | (with_reducible refine Lead.forInList _ ?_ _ _; intro _ _)
      | (with_reducible refine Lead.mapArray _ ?_ _; intro _)
      | (with_reducible refine Lead.foldlM _ ?_ _ _; intro _ _)
      | with_reducible assumption
      | with_reducible exact Lead.pure _
      | with_reducible exact Lead.stuck _
      | with_reducible exact Lead.unsupported _
      | with_reducible exact Lead.goPanic _
      | with_reducible exact Lead.min2 h _ _
      | with_reducible refine Lead.bind ?_ (fun _ => ?_)
      | with_reducible refine Lead.map ?_
      | with_reducible refine Lead.iteH (fun _ => ?_) (fun _ => ?_)
      | split
      | dsimp only

theorem Lead.clear_ (h : Tab V) (a : Array TypeId) (t : TypeId) (x : Array Value) : Lead V (Builtin.clear_ a t x) := by
    unfold Builtin.clear_
    repeat' first
      | exact Lead.setObj _ _ rfl (by simp [Env.add])
      | (with_reducible refine Lead.getObjH h _ ?gk_ (.inr ?gd_) (fun _ _ h => ?_); (case gk_ => intros; rfl); (case gd_ => intro w_; refine ⟨_, _, rfl, ?_⟩; simp [Soft]))
      | (with_reducible refine Lead.forInArray _ ?_ _ _; intro _ _)
      | (with_reducible refine Lead.forInRange _ ?_ _ _; intro _ _)
      | (with_reducible refine Lead.forInList _ ?_ _ _; intro _ _)
      | (with_reducible refine Lead.mapArray _ ?_ _; intro _)
      | (with_reducible refine Lead.foldlM _ ?_ _ _; intro _ _)
      | with_reducible assumption
      | with_reducible exact Lead.pure _
      | with_reducible exact Lead.stuck _
      | with_reducible exact Lead.unsupported _
      | with_reducible exact Lead.goPanic _
      | with_reducible exact Lead.underlying h _
      | with_reducible exact Lead.zeroValue h _
      | with_reducible exact Lead.storeCells _ _ _
      | with_reducible exact Lead.slice h _ _ _ _ _
      | with_reducible refine Lead.bind ?_ (fun _ => ?_)
      | with_reducible refine Lead.map ?_
      | with_reducible refine Lead.iteH (fun _ => ?_) (fun _ => ?_)
      | split
      | dsimp only

theorem Lead.stringToRunes (h : Tab V) (t : TypeId) (s : ByteArray) : Lead V (Conv.stringToRunes t s) := by
    unfold Conv.stringToRunes
    repeat' first
      | (with_reducible refine Lead.getObjH h _ ?gk_ (.inr ?gd_) (fun _ _ h => ?_); (case gk_ => intros; rfl); (case gd_ => intro w_; refine ⟨_, _, rfl, ?_⟩; simp [Soft]))
      | (with_reducible refine Lead.forInArray _ ?_ _ _; intro _ _)
      | (with_reducible refine Lead.forInRange _ ?_ _ _; intro _ _)
      | (with_reducible refine Lead.forInList _ ?_ _ _; intro _ _)
      | (with_reducible refine Lead.mapArray _ ?_ _; intro _)
      | (with_reducible refine Lead.foldlM _ ?_ _ _; intro _ _)
      | with_reducible assumption
      | with_reducible exact Lead.pure _
      | with_reducible exact Lead.stuck _
      | with_reducible exact Lead.unsupported _
      | with_reducible exact Lead.goPanic _
      | with_reducible exact Lead.newRow _ _
      | with_reducible exact Lead.choose _
      | with_reducible exact Lead.slice h _ _ _ _ _
      | with_reducible refine Lead.bind ?_ (fun _ => ?_)
      | with_reducible refine Lead.map ?_
      | with_reducible refine Lead.iteH (fun _ => ?_) (fun _ => ?_)
      | split
      | dsimp only

theorem Lead.runesToString (h : Tab V) (x : Value) : Lead V (Conv.runesToString x) := by
    unfold Conv.runesToString
    repeat' first
      | (with_reducible refine Lead.getObjH h _ ?gk_ (.inr ?gd_) (fun _ _ h => ?_); (case gk_ => intros; rfl); (case gd_ => intro w_; refine ⟨_, _, rfl, ?_⟩; simp [Soft]))
      | (with_reducible refine Lead.forInArray _ ?_ _ _; intro _ _)
      | (with_reducible refine Lead.forInRange _ ?_ _ _; intro _ _)
      | (with_reducible refine Lead.forInList _ ?_ _ _; intro _ _)
      | (with_reducible refine Lead.mapArray _ ?_ _; intro _)
      | (with_reducible refine Lead.foldlM _ ?_ _ _; intro _ _)
      | with_reducible assumption
      | with_reducible exact Lead.pure _
      | with_reducible exact Lead.stuck _
      | with_reducible exact Lead.unsupported _
      | with_reducible exact Lead.goPanic _
      | with_reducible exact Lead.loadCells _ _
      | with_reducible exact Lead.slice h _ _ _ _ _
      | with_reducible refine Lead.bind ?_ (fun _ => ?_)
      | with_reducible refine Lead.map ?_
      | with_reducible refine Lead.iteH (fun _ => ?_) (fun _ => ?_)
      | split
      | dsimp only

theorem Lead.findAsking (h : Tab V) (t : TypeId) (k : Value) : ∀ (l : List MapEntry) (i : Nat), Lead V (Instr.findAsking t k l i) := by
    intro l
    induction l with
    | nil => intros; exact Lead.pure _
    | cons e l ih =>
    intros
    unfold Instr.findAsking
    repeat' first
      | (with_reducible refine Lead.getObjH h _ ?gk_ (.inr ?gd_) (fun _ _ h => ?_); (case gk_ => intros; rfl); (case gd_ => intro w_; refine ⟨_, _, rfl, ?_⟩; simp [Soft]))
      | (with_reducible refine Lead.forInArray _ ?_ _ _; intro _ _)
      | (with_reducible refine Lead.forInRange _ ?_ _ _; intro _ _)
      | (with_reducible refine Lead.forInList _ ?_ _ _; intro _ _)
      | (with_reducible refine Lead.mapArray _ ?_ _; intro _)
      | (with_reducible refine Lead.foldlM _ ?_ _ _; intro _ _)
      | with_reducible assumption
      | with_reducible exact Lead.pure _
      | with_reducible exact Lead.stuck _
      | with_reducible exact Lead.unsupported _
      | with_reducible exact Lead.goPanic _
      | with_reducible exact Lead.equal h _ _ _
      | with_reducible apply ih
      | with_reducible refine Lead.bind ?_ (fun _ => ?_)
      | with_reducible refine Lead.map ?_
      | with_reducible refine Lead.iteH (fun _ => ?_) (fun _ => ?_)
      | split
      | dsimp only

theorem Lead.findKey (h : Tab V) (t : TypeId) (k : Value) (l : List MapEntry) : Lead V (Instr.findKey t k l) := by
    unfold Instr.findKey
    repeat' first
      | (with_reducible refine Lead.getObjH h _ ?gk_ (.inr ?gd_) (fun _ _ h => ?_); (case gk_ => intros; rfl); (case gd_ => intro w_; refine ⟨_, _, rfl, ?_⟩; simp [Soft]))
      | (with_reducible refine Lead.forInArray _ ?_ _ _; intro _ _)
      | (with_reducible refine Lead.forInRange _ ?_ _ _; intro _ _)
      | (with_reducible refine Lead.forInList _ ?_ _ _; intro _ _)
      | (with_reducible refine Lead.mapArray _ ?_ _; intro _)
      | (with_reducible refine Lead.foldlM _ ?_ _ _; intro _ _)
      | with_reducible assumption
      | with_reducible exact Lead.pure _
      | with_reducible exact Lead.stuck _
      | with_reducible exact Lead.unsupported _
      | with_reducible exact Lead.goPanic _
      | with_reducible exact Lead.underlying h _
      | with_reducible exact Lead.findAsking h _ _ _ _
      | with_reducible refine Lead.bind ?_ (fun _ => ?_)
      | with_reducible refine Lead.map ?_
      | with_reducible refine Lead.iteH (fun _ => ?_) (fun _ => ?_)
      | split
      | dsimp only

theorem Lead.lookup (h : Tab V) (t : TypeId) (x i : Value) (b : Bool) : Lead V (Instr.lookup t x i b) := by
    unfold Instr.lookup
    repeat' first
      | (with_reducible refine Lead.getObjH h _ ?gk_ (.inr ?gd_) (fun _ _ h => ?_); (case gk_ => intros; rfl); (case gd_ => intro w_; refine ⟨_, _, rfl, ?_⟩; simp [Soft]))
      | (with_reducible refine Lead.forInArray _ ?_ _ _; intro _ _)
      | (with_reducible refine Lead.forInRange _ ?_ _ _; intro _ _)
      | (with_reducible refine Lead.forInList _ ?_ _ _; intro _ _)
      | (with_reducible refine Lead.mapArray _ ?_ _; intro _)
      | (with_reducible refine Lead.foldlM _ ?_ _ _; intro _ _)
      | with_reducible assumption
      | with_reducible exact Lead.pure _
      | with_reducible exact Lead.stuck _
      | with_reducible exact Lead.unsupported _
      | with_reducible exact Lead.goPanic _
      | with_reducible exact Lead.underlying h _
      | with_reducible exact Lead.zeroValue h _
      | with_reducible exact Lead.index h _ _ _
      | with_reducible exact Lead.checkKey h _ _ _ _
      | with_reducible exact Lead.findKey h _ _ _
      | with_reducible refine Lead.bind ?_ (fun _ => ?_)
      | with_reducible refine Lead.map ?_
      | with_reducible refine Lead.iteH (fun _ => ?_) (fun _ => ?_)
      | split
      | dsimp only

theorem Lead.keyThatStays (h : Tab V) (a b : Value) : Lead V (Instr.keyThatStays a b) := by
    unfold Instr.keyThatStays
    repeat' first
      | (with_reducible refine Lead.getObjH h _ ?gk_ (.inr ?gd_) (fun _ _ h => ?_); (case gk_ => intros; rfl); (case gd_ => intro w_; refine ⟨_, _, rfl, ?_⟩; simp [Soft]))
      | (with_reducible refine Lead.forInArray _ ?_ _ _; intro _ _)
      | (with_reducible refine Lead.forInRange _ ?_ _ _; intro _ _)
      | (with_reducible refine Lead.forInList _ ?_ _ _; intro _ _)
      | (with_reducible refine Lead.mapArray _ ?_ _; intro _)
      | (with_reducible refine Lead.foldlM _ ?_ _ _; intro _ _)
      | with_reducible assumption
      | with_reducible exact Lead.pure _
      | with_reducible exact Lead.stuck _
      | with_reducible exact Lead.unsupported _
      | with_reducible exact Lead.goPanic _
      | with_reducible exact Lead.choose _
      | with_reducible refine Lead.bind ?_ (fun _ => ?_)
      | with_reducible refine Lead.map ?_
      | with_reducible refine Lead.iteH (fun _ => ?_) (fun _ => ?_)
      | split
      | dsimp only

theorem Lead.mapUpdate (h : Tab V) (t : TypeId) (m k x : Value) : Lead V (Instr.mapUpdate t m k x) := by
    unfold Instr.mapUpdate
    repeat' first
      | exact Lead.setObj _ _ rfl (by simp [Env.add])
      | (with_reducible refine Lead.getObjH h _ ?gk_ (.inr ?gd_) (fun _ _ h => ?_); (case gk_ => intros; rfl); (case gd_ => intro w_; refine ⟨_, _, rfl, ?_⟩; simp [Soft]))
      | (with_reducible refine Lead.forInArray _ ?_ _ _; intro _ _)
      | (with_reducible refine Lead.forInRange _ ?_ _ _; intro _ _)
      | (with_reducible refine Lead.forInList _ ?_ _ _; intro _ _)
      | (with_reducible refine Lead.mapArray _ ?_ _; intro _)
      | (with_reducible refine Lead.foldlM _ ?_ _ _; intro _ _)
      | with_reducible assumption
      | with_reducible exact Lead.pure _
      | with_reducible exact Lead.stuck _
      | with_reducible exact Lead.unsupported _
      | with_reducible exact Lead.goPanic _
      | with_reducible exact Lead.runtimePanic h _
      | with_reducible exact Lead.underlying h _
      | with_reducible exact Lead.checkKey h _ _ _ _
      | with_reducible exact Lead.findKey h _ _ _
      | with_reducible exact Lead.keyThatStays h _ _
      | with_reducible refine Lead.bind ?_ (fun _ => ?_)
      | with_reducible refine Lead.map ?_
      | with_reducible refine Lead.iteH (fun _ => ?_) (fun _ => ?_)
      | split
      | dsimp only

theorem Lead.mapEntry (h : Tab V) (t : TypeId) (m k : Value) : Lead V (Instr.mapEntry t m k) := by
    unfold Instr.mapEntry
    repeat' first
      | exact Lead.setObj _ _ rfl (by simp [Env.add])
      | (with_reducible refine Lead.getObjH h _ ?gk_ (.inr ?gd_) (fun _ _ h => ?_); (case gk_ => intros; rfl); (case gd_ => intro w_; refine ⟨_, _, rfl, ?_⟩; simp [Soft]))
      | (with_reducible refine Lead.forInArray _ ?_ _ _; intro _ _)
      | (with_reducible refine Lead.forInRange _ ?_ _ _; intro _ _)
      | (with_reducible refine Lead.forInList _ ?_ _ _; intro _ _)
      | (with_reducible refine Lead.mapArray _ ?_ _; intro _)
      | (with_reducible refine Lead.foldlM _ ?_ _ _; intro _ _)
      | with_reducible assumption
      | with_reducible exact Lead.pure _
      | with_reducible exact Lead.stuck _
      | with_reducible exact Lead.unsupported _
      | with_reducible exact Lead.goPanic _
      | with_reducible exact Lead.runtimePanic h _
      | with_reducible exact Lead.underlying h _
      | with_reducible exact Lead.zeroValue h _
      | with_reducible exact Lead.checkKey h _ _ _ _
      | with_reducible exact Lead.findKey h _ _ _
      | with_reducible exact Lead.keyThatStays h _ _
      | with_reducible refine Lead.bind ?_ (fun _ => ?_)
      | with_reducible refine Lead.map ?_
      | with_reducible refine Lead.iteH (fun _ => ?_) (fun _ => ?_)
      | split
      | dsimp only

theorem Lead.entryStore (h : Tab V) (t : TypeId) (m k x : Value) : Lead V (Instr.entryStore t m k x) := by
    unfold Instr.entryStore
    repeat' first
      | exact Lead.setObj _ _ rfl (by simp [Env.add])
      | (with_reducible refine Lead.getObjH h _ ?gk_ (.inr ?gd_) (fun _ _ h => ?_); (case gk_ => intros; rfl); (case gd_ => intro w_; refine ⟨_, _, rfl, ?_⟩; simp [Soft]))
      | (with_reducible refine Lead.forInArray _ ?_ _ _; intro _ _)
      | (with_reducible refine Lead.forInRange _ ?_ _ _; intro _ _)
      | (with_reducible refine Lead.forInList _ ?_ _ _; intro _ _)
      | (with_reducible refine Lead.mapArray _ ?_ _; intro _)
      | (with_reducible refine Lead.foldlM _ ?_ _ _; intro _ _)
      | with_reducible assumption
      | with_reducible exact Lead.pure _
      | with_reducible exact Lead.stuck _
      | with_reducible exact Lead.unsupported _
      | with_reducible exact Lead.goPanic _
      | with_reducible exact Lead.asInt _
      | with_reducible refine Lead.bind ?_ (fun _ => ?_)
      | with_reducible refine Lead.map ?_
      | with_reducible refine Lead.iteH (fun _ => ?_) (fun _ => ?_)
      | split
      | dsimp only

theorem Lead.makeMap (h : Tab V) (t : TypeId) (r : Option Value) : Lead V (Instr.makeMap t r) := by
    unfold Instr.makeMap
    repeat' first
      | exact Lead.newObj _ rfl
      | (with_reducible refine Lead.newObj _ ?_; split <;> rfl)
      | (with_reducible refine Lead.getObjH h _ ?gk_ (.inr ?gd_) (fun _ _ h => ?_); (case gk_ => intros; rfl); (case gd_ => intro w_; refine ⟨_, _, rfl, ?_⟩; simp [Soft]))
      | (with_reducible refine Lead.forInArray _ ?_ _ _; intro _ _)
      | (with_reducible refine Lead.forInRange _ ?_ _ _; intro _ _)
      | (with_reducible refine Lead.forInList _ ?_ _ _; intro _ _)
      | (with_reducible refine Lead.mapArray _ ?_ _; intro _)
      | (with_reducible refine Lead.foldlM _ ?_ _ _; intro _ _)
      | with_reducible assumption
      | with_reducible exact Lead.pure _
      | with_reducible exact Lead.stuck _
      | with_reducible exact Lead.unsupported _
      | with_reducible exact Lead.goPanic _
      | with_reducible exact Lead.underlying h _
      | with_reducible exact Lead.asInt _
      | with_reducible refine Lead.bind ?_ (fun _ => ?_)
      | with_reducible refine Lead.map ?_
      | with_reducible refine Lead.iteH (fun _ => ?_) (fun _ => ?_)
      | split
      | dsimp only

theorem Lead.makeChan (h : Tab V) (t : TypeId) (n : Value) : Lead V (Instr.makeChan t n) := by
    unfold Instr.makeChan
    repeat' first
      | exact Lead.newObj _ rfl
      | (with_reducible refine Lead.newObj _ ?_; split <;> rfl)
      | (with_reducible refine Lead.getObjH h _ ?gk_ (.inr ?gd_) (fun _ _ h => ?_); (case gk_ => intros; rfl); (case gd_ => intro w_; refine ⟨_, _, rfl, ?_⟩; simp [Soft]))
      | (with_reducible refine Lead.forInArray _ ?_ _ _; intro _ _)
      | (with_reducible refine Lead.forInRange _ ?_ _ _; intro _ _)
      | (with_reducible refine Lead.forInList _ ?_ _ _; intro _ _)
      | (with_reducible refine Lead.mapArray _ ?_ _; intro _)
      | (with_reducible refine Lead.foldlM _ ?_ _ _; intro _ _)
      | with_reducible assumption
      | with_reducible exact Lead.pure _
      | with_reducible exact Lead.stuck _
      | with_reducible exact Lead.unsupported _
      | with_reducible exact Lead.goPanic _
      | with_reducible exact Lead.runtimePanic h _
      | with_reducible exact Lead.underlying h _
      | with_reducible exact Lead.typeInfo h _
      | with_reducible exact Lead.asInt _
      | with_reducible refine Lead.bind ?_ (fun _ => ?_)
      | with_reducible refine Lead.map ?_
      | with_reducible refine Lead.iteH (fun _ => ?_) (fun _ => ?_)
      | split
      | dsimp only

theorem Lead.range (h : Tab V) (t : TypeId) (x : Value) : Lead V (Instr.range t x) := by
    unfold Instr.range
    refine Lead.bind (Lead.underlying h _) fun d => ?_
    have fin : ∀ (V : Env) (it : Obj), Obj.calm it = true → Lead V (Go.newObj it >>= fun r => (Pure.pure (Value.pointer (some ⟨r, 0, none⟩)) : Sem Value)) := fun V it hi => Lead.bind (Lead.newObj it hi) fun _ => Lead.pure _
    split
    · exact fin _ _ rfl
    · exact fin _ _ rfl
    · show Lead V (Sem.bind (Sem.bind (Go.getObj _) _) _)
      rw [Sem.bind_assoc']
      refine Lead.getObjK _ (by intros; rfl) (.inr (by intros; exact ⟨_, _, rfl, by simp [Soft]⟩)) fun o _ => ?_
      cases o with
      | map es clock => exact fin _ (.mapIter (some _) clock #[] clock) rfl
      | _ => exact Lead.soft _
    · exact Lead.soft _

theorem Lead.next (h : Tab V) (i : Value) (t : TypeId) : Lead V (Instr.next i false t) := by
    unfold Instr.next
    repeat' first
      | exact Lead.setObj _ _ rfl (by simp [Env.add])
      | (with_reducible refine Lead.program ?eq_ ?_; (case eq_ => simp only [tables_holdsPacked h.tables, tables_stoodInHeld h.tables, tables_depth h.tables, tables_globals h.tables, tables_eqGuard h.tables, tables_info h.tables]))
      | (with_reducible refine Lead.getObjH h _ ?gk_ (.inr ?gd_) (fun _ _ h => ?_); (case gk_ => intros; rfl); (case gd_ => intro w_; refine ⟨_, _, rfl, ?_⟩; simp [Soft]))
      | (with_reducible refine Lead.forInArray _ ?_ _ _; intro _ _)
      | (with_reducible refine Lead.forInRange _ ?_ _ _; intro _ _)
      | (with_reducible refine Lead.forInList _ ?_ _ _; intro _ _)
      | (with_reducible refine Lead.mapArray _ ?_ _; intro _)
      | (with_reducible refine Lead.foldlM _ ?_ _ _; intro _ _)
      | with_reducible assumption
      | with_reducible exact Lead.pure _
      | with_reducible exact Lead.stuck _
      | with_reducible exact Lead.unsupported _
      | with_reducible exact Lead.goPanic _
      | with_reducible exact Lead.runtimePanic h _
      | with_reducible exact Lead.zeroValue h _
      | with_reducible exact Lead.elemOf h _
      | with_reducible exact Lead.asInt _
      | with_reducible exact Lead.asAddr h _
      | with_reducible exact Lead.load _ _
      | with_reducible exact Lead.store _ _ _
      | with_reducible exact Lead.choose _
      | with_reducible exact Lead.slice h _ _ _ _ _
      | with_reducible exact Lead.lookup h _ _ _ _
      | with_reducible exact Lead.range h _ _
      | with_reducible refine Lead.bind ?_ (fun _ => ?_)
      | with_reducible refine Lead.map ?_
      | with_reducible refine Lead.iteH (fun _ => ?_) (fun _ => ?_)
      | split
      | dsimp only

theorem Lead.entry (h : Tab V) (i : Value) : Lead V (Instr.entry i) := by
    unfold Instr.entry
    repeat' first
      | (with_reducible refine Lead.program ?eq_ ?_; (case eq_ => simp only [tables_holdsPacked h.tables, tables_stoodInHeld h.tables, tables_depth h.tables, tables_globals h.tables, tables_eqGuard h.tables, tables_info h.tables]))
      | (with_reducible refine Lead.getObjH h _ ?gk_ (.inr ?gd_) (fun _ _ h => ?_); (case gk_ => intros; rfl); (case gd_ => intro w_; refine ⟨_, _, rfl, ?_⟩; simp [Soft]))
      | (with_reducible refine Lead.forInArray _ ?_ _ _; intro _ _)
      | (with_reducible refine Lead.forInRange _ ?_ _ _; intro _ _)
      | (with_reducible refine Lead.forInList _ ?_ _ _; intro _ _)
      | (with_reducible refine Lead.mapArray _ ?_ _; intro _)
      | (with_reducible refine Lead.foldlM _ ?_ _ _; intro _ _)
      | with_reducible assumption
      | with_reducible exact Lead.pure _
      | with_reducible exact Lead.stuck _
      | with_reducible exact Lead.unsupported _
      | with_reducible exact Lead.goPanic _
      | with_reducible exact Lead.asInt _
      | with_reducible exact Lead.asAddr h _
      | with_reducible exact Lead.load _ _
      | with_reducible exact Lead.frozen _
      | with_reducible exact Lead.slice h _ _ _ _ _
      | with_reducible exact Lead.noView _
      | with_reducible exact Lead.range h _ _
      | with_reducible refine Lead.bind ?_ (fun _ => ?_)
      | with_reducible refine Lead.map ?_
      | with_reducible refine Lead.iteH (fun _ => ?_) (fun _ => ?_)
      | split
      | dsimp only

theorem Lead.delete_ (h : Tab V) (a : Array TypeId) (t : TypeId) (x : Array Value) : Lead V (Builtin.delete_ a t x) := by
    unfold Builtin.delete_
    repeat' first
      | exact Lead.setObj _ _ rfl (by simp [Env.add])
      | (with_reducible refine Lead.getObjH h _ ?gk_ (.inr ?gd_) (fun _ _ h => ?_); (case gk_ => intros; rfl); (case gd_ => intro w_; refine ⟨_, _, rfl, ?_⟩; simp [Soft]))
      | (with_reducible refine Lead.forInArray _ ?_ _ _; intro _ _)
      | (with_reducible refine Lead.forInRange _ ?_ _ _; intro _ _)
      | (with_reducible refine Lead.forInList _ ?_ _ _; intro _ _)
      | (with_reducible refine Lead.mapArray _ ?_ _; intro _)
      | (with_reducible refine Lead.foldlM _ ?_ _ _; intro _ _)
      | with_reducible assumption
      | with_reducible exact Lead.pure _
      | with_reducible exact Lead.stuck _
      | with_reducible exact Lead.unsupported _
      | with_reducible exact Lead.goPanic _
      | with_reducible exact Lead.underlying h _
      | with_reducible exact Lead.checkKey h _ _ _ _
      | with_reducible exact Lead.findKey h _ _ _
      | with_reducible refine Lead.bind ?_ (fun _ => ?_)
      | with_reducible refine Lead.map ?_
      | with_reducible refine Lead.iteH (fun _ => ?_) (fun _ => ?_)
      | split
      | dsimp only

theorem Lead.typeAssert (h : Tab V) (x : Value) (s a : TypeId) (b : Bool) : Lead V (Instr.typeAssert x s a b) := by
    unfold Instr.typeAssert
    repeat' first
      | (with_reducible refine Lead.program ?eq_ ?_; (case eq_ => simp only [tables_holdsPacked h.tables, tables_stoodInHeld h.tables, tables_depth h.tables, tables_globals h.tables, tables_eqGuard h.tables, tables_info h.tables]))
      | (with_reducible refine Lead.getObjH h _ ?gk_ (.inr ?gd_) (fun _ _ h => ?_); (case gk_ => intros; rfl); (case gd_ => intro w_; refine ⟨_, _, rfl, ?_⟩; simp [Soft]))
      | (with_reducible refine Lead.forInArray _ ?_ _ _; intro _ _)
      | (with_reducible refine Lead.forInRange _ ?_ _ _; intro _ _)
      | (with_reducible refine Lead.forInList _ ?_ _ _; intro _ _)
      | (with_reducible refine Lead.mapArray _ ?_ _; intro _)
      | (with_reducible refine Lead.foldlM _ ?_ _ _; intro _ _)
      | with_reducible assumption
      | with_reducible exact Lead.pure _
      | with_reducible exact Lead.stuck _
      | with_reducible exact Lead.unsupported _
      | with_reducible exact Lead.goPanic _
      | with_reducible exact Lead.runtimePanic h _
      | with_reducible exact Lead.underlying h _
      | with_reducible exact Lead.typeInfo h _
      | with_reducible exact Lead.zeroValue h _
      | with_reducible exact Lead.field h _ _ _
      | with_reducible refine Lead.bind ?_ (fun _ => ?_)
      | with_reducible refine Lead.map ?_
      | with_reducible refine Lead.iteH (fun _ => ?_) (fun _ => ?_)
      | split
      | dsimp only
end
end Go.Proofs.YtnknfolnbhljfaaGreatDoor.Lift
end

section
/- What asks a block's shape and goes on by it: walked alike, for in the shadow's empty blocks it comes to an end. -/
namespace Go.Proofs.YtnknfolnbhljfaaGreatDoor.Lift
open Go Go.Conc
set_option linter.unusedSimpArgs false
set_option linter.unusedVariables false
section
variable {V : Env}
theorem Lead.shapeK {β : Type} {k : Option (TypeId × Nat) → Sem β} (r : Nat) (hl : ∀ o, Lead V (k o)) (hd : ∀ w, ∃ e w', (k none).run V.sh w = .halt e w' ∧ ¬ Soft e) : Lead V (Go.shape r >>= k) := by
  intro Bad w1 w2 m es2 hB hS hT
  show Leads V Bad m w1 w2 es2 ((Sem.bind (Go.shape r) k).run V.sh w1) ((Sem.bind (Go.shape r) k).runT V.re w2 es2)
  rw [Sem.run_bind' V.sh (Go.shape r) k w1, Sem.runT_bind' V.re (Go.shape r) k w2 es2]
  simp only [Go.shape, Sem.run, Sem.runT, Result.andThen]
  by_cases hb : Bad r
  · have hsh : w1.shape? r = none := by
      unfold World.shape?
      rw [hS.poison r hb]
      rfl
    rw [hsh]
    obtain ⟨e, w', h1, h2⟩ := hd w1
    rw [h1]
    exact fun h0 => absurd h0 h2
  · rw [hS.shapeSome hb]
    exact hl _ Bad w1 w2 m es2 hB hS hT
theorem tables_cellOfByte {P' P : Program} (h : P'.toTables = P.toTables) : ∀ (n : Nat), cellOfByte P' n = cellOfByte P n := by
  intro n
  induction n with
  | zero => funext t o; rfl
  | succ n ih =>
    funext t o
    unfold cellOfByte
    rw [ih]
    simp only [tables_under h, tables_cellsOf h, tables_bytesOf h]
theorem tables_cellAtBytes {P' P : Program} (h : P'.toTables = P.toTables) (n : Nat) : cellAtBytes P' n = cellAtBytes P n := by
  funext e c o b
  unfold cellAtBytes
  simp only [tables_cellsOf h, tables_bytesOf h, tables_byteOfCell h, tables_cellOfByte h]
theorem Lead.unsafeAdd_ (h : Tab V) (a : Array TypeId) (t : TypeId) (x : Array Value) : Lead V (Builtin.unsafeAdd_ a t x) := by
  have rest : ∀ (n : Int) (ptr : Option Addr), Lead V (match ptr with
      | some a => (do
        let some (e, cells) ← Go.shape a.block | Go.unsupported (.unsafePointer "Add")
        let p ← Go.program
        match cellAtBytes p p.depth e (cells / p.cellsOf e) a.off n with
        | some off => Pure.pure (Value.pointer (some { a with off }))
        | none => Go.unsupported (.unsafePointer "Add") : Sem Value)
      | _ => Go.unsupported (.unsafePointer "Add")) := by
    intro n ptr
    cases ptr with
    | some a =>
      refine Lead.shapeK _ (fun o => ?_) (fun w => ?_)
      · split
        · refine Lead.program (by simp only [tables_cellAtBytes h.tables, tables_cellsOf h.tables, tables_depth h.tables]) ?_
          split
          · exact Lead.pure _
          · exact Lead.unsupported _
        · exact Lead.unsupported _
      · exact ⟨_, _, rfl, by simp [Soft]⟩
    | none => exact Lead.unsupported _
  unfold Builtin.unsafeAdd_
  have bad : Lead V (Go.stuck "unsafe.Add: a pointer and an integer expected" : Sem Value) := Lead.stuck _
  by_cases hx : ∃ ptr l, x = #[Value.pointer ptr, l]
  · obtain ⟨ptr, l, rfl⟩ := hx
    refine Lead.bind (Lead.asInt _) fun n => ?_
    refine Lead.iteH (fun _ => ?_) (fun _ => ?_)
    · cases ptr with
      | some a =>
        refine Lead.bind (Lead.viewAt _) fun o => ?_
        refine Lead.iteH (fun _ => ?_) (fun _ => Lead.pure _)
        exact Lead.bind (Lead.unsupported _) fun _ => Lead.pure _
      | none =>
        refine Lead.bind (Lead.unsupported _) fun _ => ?_
        refine Lead.iteH (fun _ => ?_) (fun _ => ?_)
        · exact Lead.bind (Lead.unsupported _) fun _ => rest n none
        · exact rest n none
    · refine Lead.iteH (fun _ => ?_) (fun _ => ?_)
      · exact Lead.bind (Lead.unsupported _) fun _ => rest n _
      · exact rest n _
  · obtain ⟨l⟩ := x
    match l, hx with
    | [], _ => exact bad
    | [p], _ => exact bad
    | [p, q], hx => cases p <;> first | exact bad | exact absurd ⟨_, _, rfl⟩ hx
    | p :: q :: r :: s, _ => exact bad
theorem Lead.asNumber (a : Addr) (b : Bool) : Lead V (Go.asNumber a b) := Lead.bind (Lead.newObj _ rfl) fun _ => Lead.pure _
theorem Lead.movedNumber (h : Tab V) (t : TypeId) (x y : Value) : Lead V (Go.movedNumber t x y) := by
  unfold Go.movedNumber
  refine Lead.bind (Lead.underlying h _) fun d => ?_
  have rest : Lead V (match x with
      | .pointer (some n) => (do
        let (a, lost) ← Go.behindNumber n
        match ← Builtin.unsafeAdd_ #[] t #[.pointer (some a), y] with
        | .pointer (some b) => Go.asNumber b lost
        | v => Pure.pure v : Sem Value)
      | _ => Builtin.unsafeAdd_ #[] t #[x, y]) := by
    split
    · refine Lead.bind (Lead.behindNumber _) fun p => Lead.bind (Lead.unsafeAdd_ h _ _ _) fun v => ?_
      split
      · exact Lead.asNumber _ _
      · exact Lead.pure _
    · exact Lead.unsafeAdd_ h _ _ _
  refine Lead.iteH (fun _ => ?_) (fun _ => ?_)
  · exact Lead.bind (Lead.unsupported _) fun _ => rest
  · exact rest
theorem Lead.movedPointer (h : Tab V) (t : TypeId) (x y : Value) : Lead V (Go.movedPointer t x y) := by
  unfold Go.movedPointer
  split
  · refine Lead.bind (Lead.numberAt _) fun o => ?_
    refine Lead.iteH (fun _ => ?_) (fun _ => ?_)
    · exact Lead.bind (Lead.unsupported _) fun _ => Lead.unsafeAdd_ h _ _ _
    · exact Lead.unsafeAdd_ h _ _ _
  · exact Lead.unsafeAdd_ h _ _ _
theorem Lead.twoPlaces (h : Tab V) (a b : Addr) : Lead V (Op.twoPlaces a b) := by
  unfold Op.twoPlaces
  refine Lead.program (by simp only [tables_globals h.tables]) ?_
  refine Lead.iteH (fun _ => ?_) (fun hc => ?_)
  · by_cases hc : a.block < V.re.globals.size ∧ b.block < V.re.globals.size
    · exact Lead.bind (Lead.unsupported _) fun _ => Lead.bind (Lead.byteOfG h a hc.1) fun _ => Lead.bind (Lead.byteOfG h b hc.2) fun _ => Lead.pure _
    · refine Lead.dead fun w => ⟨_, w, rfl, by simp [Soft]⟩
  · simp only [Bool.or_eq_true, bne_iff_ne, ne_eq, decide_eq_true_eq, not_or, Decidable.not_not] at hc
    exact Lead.bind (Lead.byteOfG h a (by omega)) fun _ => Lead.bind (Lead.byteOfG h b (by omega)) fun _ => Lead.pure _
theorem Lead.addrSub (h : Tab V) (k : IntKind) (a b : Addr) : Lead V (Op.addrSub k a b) := Lead.bind (Lead.twoPlaces h a b) fun _ => Lead.pure _
theorem Lead.addrCmp (h : Tab V) (o : BinOp) (a b : Addr) : Lead V (Op.addrCmp o a b) := by
  unfold Op.addrCmp
  refine Lead.bind (Lead.twoPlaces h a b) fun p => ?_
  dsimp only
  split <;> first | exact Lead.pure _ | exact Lead.unsupported _
/-- The shape of a block is asked: what follows may lean on its not being shunned. -/
theorem Lead.shapeH {β : Type} {k : Option (TypeId × Nat) → Sem β} (h : Tab V) (r : Nat) (hd : ∀ w, ∃ e w', (k none).run V.sh w = .halt e w' ∧ ¬ Soft e) (hl : ∀ o, Tab (V.add r) → Lead (V.add r) (k o)) : Lead V (Go.shape r >>= k) := by
  intro Bad w1 w2 m es2 hB hS hT
  show Leads V Bad m w1 w2 es2 ((Sem.bind (Go.shape r) k).run V.sh w1) ((Sem.bind (Go.shape r) k).runT V.re w2 es2)
  rw [Sem.run_bind' V.sh (Go.shape r) k w1, Sem.runT_bind' V.re (Go.shape r) k w2 es2]
  simp only [Go.shape, Sem.run, Sem.runT, Result.andThen]
  by_cases hb : Bad r
  · have hsh : w1.shape? r = none := by
      unfold World.shape?
      rw [hS.poison r hb]
      rfl
    rw [hsh]
    obtain ⟨e, w', h1, h2⟩ := hd w1
    rw [h1]
    exact fun h0 => absurd h0 h2
  · rw [hS.shapeSome hb]
    have h3 := hl (w1.shape? r) (h.add r) Bad w1 w2 m es2 (fun i hi => hi.elim (hB i) (fun e => e ▸ hb)) hS.add hT
    unfold Leads at h3 ⊢
    rw [show (V.add r).sh = V.sh from rfl] at h3
    revert h3
    cases (k (w1.shape? r)).run V.sh w1 with
    | ok a v1 =>
      intro h3 hm
      obtain ⟨v2, n, e1, o1⟩ := h3 hm
      exact ⟨v2, n, e1, o1.strip⟩
    | halt a v1 =>
      intro h3 hh hm
      obtain ⟨rd, v2, n, e1, o1⟩ := h3 hh hm
      exact ⟨rd, v2, n, e1, o1.strip⟩
theorem Lead.addrMod (h : Tab V) (k : IntKind) (a : Addr) (n : Int) : Lead V (Op.addrMod k a n) := by
  unfold Op.addrMod
  refine Lead.shapeH h _ (fun w => ⟨_, _, rfl, by simp [Soft]⟩) fun o h2 => ?_
  split
  · refine Lead.bind (Lead.typeInfo h2 _) fun i => ?_
    dsimp only
    refine Lead.iteH (fun _ => ?_) (fun _ => ?_)
    · exact Lead.bind (Lead.unsupported _) fun _ => Lead.bind (Lead.byteOf h2 _ (.inr rfl)) fun _ => Lead.pure _
    · exact Lead.bind (Lead.byteOf h2 _ (.inr rfl)) fun _ => Lead.pure _
  · exact Lead.unsupported _
theorem Lead.binOp (h : Tab V) (o : BinOp) (t : TypeId) (x y : Value) : Lead V (Go.binOp o t x y) := by
  unfold Go.binOp
  split <;> first
    | exact Lead.shift h _ _ _ _ _
    | (split <;> first | exact Lead.stuck _ | (split <;> first | exact Lead.intArith h _ _ _ _ | exact Lead.intDiv h _ _ _ _ | exact Lead.intBits h _ _ _ _ | exact Lead.intCmp h _ _ _ | exact Lead.floatArith h _ _ _ _ | exact Lead.floatCmp h _ _ _ _) | exact Lead.complexOp h _ _ _ _ _ _)
    | exact Lead.stringOp h _ _ _
    | exact Lead.bind (Lead.equal h _ _ _) fun _ => Lead.pure _
    | exact Lead.bind (Lead.underlying h _) fun _ => Lead.iteH (fun _ => Lead.movedPointer h _ _ _) (fun _ => Lead.movedNumber h _ _ _)
    | exact Lead.movedNumber h _ _ _
    | exact Lead.bind (Lead.behindNumber _) fun _ => Lead.bind (Lead.behindNumber _) fun _ => Lead.addrSub h _ _ _
    | exact Lead.bind (Lead.behindNumber _) fun _ => Lead.bind (Lead.behindNumber _) fun _ => Lead.addrCmp h _ _ _
    | exact Lead.bind (Lead.behindNumber _) fun _ => Lead.addrMod h _ _ _
    | exact Lead.unsupported _
    | exact Lead.stuck _
/-- The byte at which a place lies: in the shadow it comes to an end at the hollow block. -/
theorem Lead.byteOfAny (h : Tab V) (a : Addr) : Lead V (Go.byteOf a) := by
  unfold Go.byteOf
  split
  · exact Lead.pure _
  · refine Lead.program (by simp only [tables_cellsOf h.tables, tables_bytesOf h.tables, tables_byteOfCell h.tables, tables_depth h.tables]) ?_
    refine Lead.bind (Lead.noView _) fun _ => Lead.shapeH h _ (fun w => ⟨_, _, rfl, by simp [Soft]⟩) fun o h2 => ?_
    split
    · dsimp only
      split
      · exact Lead.pure _
      · split
        · exact Lead.pure _
        · exact Lead.stuck _
    · exact Lead.stuck _
theorem Lead.partAt (h : Tab V) (a : Addr) (c b : Nat) : Lead V (Go.partAt a c b) := by
  unfold Go.partAt
  exact Lead.bind (Lead.byteOfAny h _) fun _ => Lead.bind (Lead.byteOfAny h _) fun _ => Lead.pure _
theorem Lead.fieldPlace (h : Tab V) (a : Addr) (f : Field) : Lead V (Go.fieldPlace a f) := by
  unfold Go.fieldPlace
  exact Lead.bind (Lead.sizeOf h _) fun _ => Lead.ite (Lead.partAt h _ _ _) (Lead.pure _)
theorem Lead.fieldAt (h : Tab V) (s : TypeId) (a : Value) (f : Nat) : Lead V (Instr.fieldAt s a f) := by
  unfold Instr.fieldAt
  refine Lead.bind (Lead.underlying h _) fun d => ?_
  split
  · split
    · exact Lead.bind (Lead.sureAddr _) fun _ => Lead.bind (Lead.fieldPlace h _ _) fun _ => Lead.pure _
    · exact Lead.stuck _
  · exact Lead.stuck _
theorem Lead.placeGet (h : Tab V) (t : TypeId) (x : Place) : Lead V (x.get t) := by
  cases x with
  | val v => exact Lead.pure _
  | var a => exact Lead.loadVar h _ _
theorem Lead.follow (h : Tab V) : ∀ (l : List FieldStep) (t : TypeId) (x : Place), Lead V (Go.follow l t x)
  | [], _, _ => Lead.pure _
  | s :: l, t, x => by
    unfold Go.follow
    refine Lead.bind (Lead.underlying h _) fun d => ?_
    split
    · split
      · refine Lead.iteH (fun _ => ?_) (fun _ => ?_)
        · exact Lead.bind (Lead.placeGet h _ _) fun _ => Lead.bind (Lead.asAddr h _) fun _ => Lead.bind (Lead.fieldPlace h _ _) fun _ => Lead.follow h l _ _
        · split
          · exact Lead.bind (Lead.fieldPlace h _ _) fun _ => Lead.follow h l _ _
          · exact Lead.bind (Lead.part h _ _ _) fun _ => Lead.follow h l _ _
          · exact Lead.stuck _
      · exact Lead.stuck _
    · exact Lead.stuck _
end
end Go.Proofs.YtnknfolnbhljfaaGreatDoor.Lift
end
