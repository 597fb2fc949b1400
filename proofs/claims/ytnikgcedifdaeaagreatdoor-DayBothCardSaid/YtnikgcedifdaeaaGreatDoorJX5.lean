/- Texts of the proof, joined by a program (part 5): contracts of functions, plain laws. -/
import Derived.Test.YtnikgcedifdaeaaGreatDoorJX4
import Derived.Test.YtnikgcedifdaeaaGreatDoorJX3
import Derived.Test.YtnikgcedifdaeaaGreatDoorChecked
import Derived.Conc.FxGenDone
import Derived.Conc.FxGenWait
import Derived.Conc.FxGenLone
import Derived.KernelRfl
import Derived.Conc.CompanyMem
import Derived.RowKit
import Derived.Conc.CrowdSel
import Derived.Conc.FxBegin
set_option linter.unusedVariables false
set_option linter.unusedSimpArgs false
set_option linter.unusedSectionVars false
section
/- unsafe.String: walked alike. Generic. -/
namespace Go.Proofs.YtnikgcedifdaeaaGreatDoor.Lift
open Go Go.Conc
set_option linter.unusedSimpArgs false
set_option linter.unusedVariables false
theorem tables_sameLayout {P' P : Program} (h : P'.toTables = P.toTables) : ∀ (n : Nat), sameLayout P' n = sameLayout P n := by
  intro n
  induction n with
  | zero => funext t u; rfl
  | succ n ih =>
    funext t u
    unfold sameLayout
    rw [ih]
    simp only [tables_uid h, tables_under h, tables_stoodInHeld h]
theorem tables_rowAt {P' P : Program} (h : P'.toTables = P.toTables) (f : TypeId → Bool) : ∀ (n : Nat), rowAt P' f n = rowAt P f n := by
  intro n
  induction n with
  | zero => funext e c o m; rfl
  | succ n ih =>
    funext e c o m
    unfold rowAt
    rw [ih]
    simp only [tables_cellsOf h, tables_under h, tables_stoodInHeld h]
theorem tables_liesAt {P' P : Program} (h : P'.toTables = P.toTables) : ∀ (n : Nat), liesAt P' n = liesAt P n := by
  intro n
  induction n with
  | zero => funext e c o u m; rfl
  | succ n ih =>
    funext e c o u m
    unfold liesAt
    rw [ih]
    simp only [tables_sameLayout h, tables_rowAt h, tables_under h, tables_depth h]
section
variable {V : Env}
theorem Lead.loadBytes : ∀ (n : Nat) (a : Addr) (acc : ByteArray), Lead V (Go.loadBytes a acc n)
  | 0, a, acc => Lead.pure _
  | n + 1, a, acc => by
    unfold Go.loadBytes
    refine Lead.bind (Lead.load _ _) fun v => ?_
    split
    · exact Lead.loadBytes n _ _
    · exact Lead.stuck _
theorem Sh.freeze {Bad : Nat → Prop} {w1 w2 : World} (h : Sh V Bad w1 w2) {a : Addr} {n : Nat} (hb : ¬ Bad a.block) : Sh V Bad (w1.freeze a n) (w2.freeze a n) := by
  unfold World.freeze
  by_cases hn : n = 0
  · rw [if_pos hn, if_pos hn]; exact h
  rw [if_neg hn, if_neg hn]
  have get : ∀ (w : World) (F : Obj → Obj) (i : Nat), (w.heap.modify a.block F)[i]? = if a.block = i then (w.heap[i]?).map F else w.heap[i]? := fun w F i => by
    rw [Array.getElem?_modify]
  refine ⟨h.tab, by simpa using h.size, fun i hi => ?_, fun i hi => ?_, fun i hi => ?_, h.os, h.output, fun i o ho => ?_, fun hs => ?_, fun i hi hbi => ?_, fun i hi hbi => ?_⟩
  · have := h.same i hi
    simp only [get]
    by_cases e : a.block = i
    · rw [if_pos e, if_pos e]
      rcases this with e1 | ⟨cap, buf, cl, tm, s, r, s', r', e1, e2⟩
      · rw [e1]; exact .inl rfl
      · rw [e1, e2]; exact .inr ⟨cap, buf, cl, tm, s, r, s', r', rfl, rfl⟩
    · rw [if_neg e, if_neg e]; exact this
  · have hne : a.block ≠ i := fun e => hb (e ▸ hi)
    simp only [get, if_neg hne]
    exact h.poison i hi
  · have hne : a.block ≠ i := fun e => hb (e ▸ hi)
    simp only [get, if_neg hne]
    exact h.real i hi
  · simp only [get] at ho
    by_cases e : a.block = i
    · rw [if_pos e] at ho
      obtain ⟨o', ho', rfl⟩ := Option.map_eq_some_iff.1 ho
      have := h.calm i o' ho'
      cases o' <;> first | rfl | exact this
    · rw [if_neg e] at ho
      exact h.calm i o ho
  · have e := h.exact hs
    simp only [e]
  · have := h.low i hi hbi
    simp only [get, this]
  · have hne : a.block ≠ i := fun e => hb (e ▸ hbi)
    simp only [get, if_neg hne]
    exact h.old i hi hbi
theorem Lead.freeze (a : Addr) (n : Nat) (hk : V.ok a.block) : Lead V (Go.freeze a n) := by
  intro Bad w1 w2 m es2 hB hS hT
  unfold Go.freeze
  simp only [Sem.run]
  intro _
  refine ⟨w2.freeze a n, #[], by simp [Sem.runT, -Sem.runT_eq], hS.freeze (hB _ hk), ?_, ?_, by simp⟩
  · unfold World.freeze
    split <;> rfl
  · unfold World.freeze
    split <;> rfl
theorem Lead.unsafeString_ (h : Tab V) (a : Array TypeId) (t : TypeId) (x : Array Value) : Lead V (Builtin.unsafeString_ a t x) := by
  unfold Builtin.unsafeString_
  have bad : Lead V (Go.stuck "unsafe.String: a pointer and an integer expected" : Sem Value) := Lead.stuck _
  by_cases hx : ∃ p l, x = #[Value.pointer p, l]
  · obtain ⟨p, l, rfl⟩ := hx
    dsimp only
    refine Lead.bind (Lead.asInt _) fun n => ?_
    split
    · rename_i pt _
      have rest : Lead V (match p with
          | none => if n = 0 then Pure.pure (Value.string .empty) else Go.runtimePanic (.error "unsafe.String: ptr is nil and len is not zero")
          | some a => if n = 0 then Pure.pure (Value.string .empty) else do
            if ← variablesAt a (← Go.elemOf pt) n.toNat then do
              let s ← Go.loadBytes a .empty n.toNat
              Go.freeze a n.toNat
              Pure.pure (Value.string s)
            else Go.unsupported (.unsafePointer "String: not so many bytes at ptr")) := by
        cases p with
        | none => exact Lead.iteH (fun _ => Lead.pure _) fun _ => Lead.runtimePanic h _
        | some a =>
          refine Lead.iteH (fun _ => Lead.pure _) fun _ => ?_
          refine Lead.bind (Lead.elemOf h _) fun u => ?_
          show Lead V (Go.program >>= fun q => Go.shape a.block >>= fun s => (match s with
            | some (e, cells) => (Pure.pure (liesAt q q.depth e (cells / q.cellsOf e) a.off u n.toNat) : Sem Bool)
            | none => Pure.pure false) >>= fun b => if b = true then (do
              let s ← Go.loadBytes a .empty n.toNat
              Go.freeze a n.toNat
              Pure.pure (Value.string s)) else Go.unsupported (.unsafePointer "String: not so many bytes at ptr"))
          refine Lead.program (by simp only [tables_liesAt h.tables, tables_depth h.tables, tables_cellsOf h.tables]) ?_
          refine Lead.shapeH h a.block (fun w => ⟨_, w, rfl, by simp [Soft]⟩) fun o h' => ?_
          have hok : (V.add a.block).ok a.block := .inr rfl
          refine Lead.bind (by cases o <;> exact Lead.pure _) fun b => ?_
          exact Lead.iteH (fun _ => Lead.bind (Lead.loadBytes _ _ _) fun s => Lead.bind (Lead.freeze _ _ hok) fun _ => Lead.pure _) fun _ => Lead.unsupported _
      refine Lead.iteH (fun _ => Lead.bind (Lead.runtimePanic h _) fun _ => ?_) (fun _ => ?_)
      · exact Lead.iteH (fun _ => Lead.bind (Lead.unsupported _) fun _ => rest) fun _ => rest
      · exact Lead.iteH (fun _ => Lead.bind (Lead.unsupported _) fun _ => rest) fun _ => rest
    · exact Lead.stuck _
  · obtain ⟨l⟩ := x
    match l, hx with
    | [], _ => exact bad
    | [p], _ => exact bad
    | [p, q], hx => cases p <;> first | exact bad | exact absurd ⟨_, _, rfl⟩ hx
    | p :: q :: r :: s, _ => exact bad
end
end Go.Proofs.YtnikgcedifdaeaaGreatDoor.Lift
end

section
/- The step of one operation, walked alike. -/
namespace Go.Proofs.YtnikgcedifdaeaaGreatDoor.Lift
open Go Go.Conc
set_option linter.unusedSimpArgs false
set_option linter.unusedVariables false
section
variable {V : Env}
def callOk (c : Call) : Bool := match c.callee with
  | .builtin b => builtinOk b
  | _ => true
/-- An operation that is walked alike. -/
def opOk (P : Program) (o : Oper) : Bool := match o.op with
  | .ready g | .waits g => decide (g < P.globals.size)
  | .next _ s => !s
  | .convert src dst _ => convOk P src dst
  | .call c | .defer c => callOk c
  | .go _ | .send .. | .recv .. | .select .. => false
  | _ => true
theorem Lead.unsafeSliceData_ (h : Tab V) (a : Array TypeId) (t : TypeId) (x : Array Value) : Lead V (Builtin.unsafeSliceData_ a t x) := by
  obtain ⟨l⟩ := x
  match l with
  | [] => exact Lead.stuck _
  | [v] =>
    cases v <;> first
      | exact Lead.stuck _
      | skip
    rename_i b l c
    cases b with
    | none => exact Lead.pure _
    | some a => exact Lead.ite (Lead.pure _) (Lead.bind (Lead.viewAt _) fun _ => Lead.ite (Lead.pure _) (Lead.bind (Lead.elemOf h _) fun _ => Lead.bind (Lead.newObj _ rfl) fun _ => Lead.pure _))
  | _ :: _ :: _ => exact Lead.stuck _
theorem Lead.waits (h : Tab V) (g : Nat) (hg : g < V.re.globals.size) : Lead V (Instr.waits g) := by
  unfold Instr.waits
  exact Lead.bind (Lead.shapeAt _ (h.ok _ hg)) fun _ => Lead.pure _
theorem Lead.ready (h : Tab V) (g : Nat) (hg : g < V.re.globals.size) : Lead V (Instr.ready g) := by
  unfold Instr.ready
  refine Lead.bind (Lead.shapeAt _ (h.ok _ hg)) fun s => ?_
  split
  · exact Lead.pure _
  · refine Lead.getObjK _ (by intros; rfl) (.inl (h.ok _ hg)) fun o ho => ?_
    cases o <;> first | cases ho; done | exact Lead.stuck _
theorem Plays.builtin (h : Tab V) (b : Builtin) (ha : builtinOk b = true) (ts : Array TypeId) (t : TypeId) (cs : Array Bool) (args : Array Value) : Plays V (Go.builtin b ts t cs args) := by
  unfold Go.builtin
  cases b <;> dsimp only <;> first
    | (cases ha; done)
    | exact Plays.value (Lead.append_ h _ _ _)
    | exact Plays.value (Lead.cap_ h _ _ _)
    | exact Plays.value (Lead.clear_ h _ _ _)
    | exact Plays.value (Lead.copy_ h _ _ _)
    | exact Plays.value (Lead.delete_ h _ _ _)
    | exact Plays.value (Lead.len_ h _ _ _)
    | exact Plays.value (Lead.max_ h _ _ _)
    | exact Plays.value (Lead.min_ h _ _ _)
    | exact Plays.value (Lead.panic h _)
    | exact Plays.pure trivial
    | exact Plays.soft _
    | exact Plays.value (Lead.unsafeAdd_ h _ _ _)
    | exact Plays.value (Lead.unsafeString_ h _ _ _)
    | exact Plays.value (Lead.unsafeSliceData_ h _ _ _)
    | exact Plays.bind (Lead.typeInfo h _) fun _ => Plays.pure trivial
theorem Plays.invoke (h : FuncsOk V) (t : Target) (ht : targetOk t = true) (args : Array Value) : Plays V (Go.invoke t args) := by
  unfold Go.invoke
  split
  · exact Plays.panic h.tab _
  · exact Plays.builtin h.tab _ ht _ _ _ _
  · exact Plays.callFunc h _ _
  · split
    · exact Plays.callMethod h _ _ _
    · exact Plays.soft _
  · split
    · exact Plays.bind (Lead.underlying h.tab _) fun d => Plays.callMethod h _ _ _
    · exact Plays.soft _
  · split
    · exact Plays.bind (Lead.receiverVia h.tab _ _ _ _) fun _ => Plays.callFunc h _ _
    · exact Plays.soft _
  · exact Plays.yield h.tab _ _
  · cases ht
  · cases ht
/-- The call is made out, and then done with. -/
theorem Plays.resolve {k : Deferred → Sem Next} (ρ : Operand → Value) (c : Call) (hc : callOk c = true) (t : TypeId) (hk : ∀ d, targetOk d.target = true → Plays V (k d)) : Plays V (Go.resolve ρ c t >>= k) := by
  unfold callOk at hc
  unfold Go.resolve
  dsimp only
  split
  · rename_i b hb
    rw [hb] at hc
    exact hk _ hc
  · exact hk _ rfl
  · unfold Deferred.ofValue
    split
    · exact hk _ rfl
    · exact hk _ rfl
    · exact Plays.soft _
theorem Lead.followBlind (h : Tab V) : ∀ (l : List FieldStep) (t : TypeId) (x : Option Value), Lead V (Go.followBlind l t x) := by
  intro l
  induction l with
  | nil => intros; exact Lead.pure _
  | cons s l ih =>
    intro t x
    unfold Go.followBlind
    refine Lead.bind (Lead.underlying h _) fun d => ?_
    split
    · split
      · split
        all_goals first
          | exact Lead.pure _
          | exact Lead.stuck _
          | exact ih _ _
          | exact Lead.bind (Lead.part h _ _ _) fun _ => ih _ _
      · exact Lead.stuck _
    · exact Lead.stuck _
theorem Lead.nilAhead (h : Tab V) : ∀ (n : Nat) (t : TypeId) (v : Value) (name : String), Lead V (Go.nilAhead n t v name) := by
  intro n
  induction n with
  | zero => intros; exact Lead.pure _
  | succ n ih =>
    intro t v name
    unfold Go.nilAhead
    refine Lead.bind (Lead.typeInfo h _) fun i => ?_
    split
    · refine Lead.bind (Lead.followBlind h _ _ _) fun r => ?_
      split
      · exact Lead.pure _
      · split
        all_goals first
          | exact Lead.pure _
          | exact Lead.stuck _
          | exact ih _ _ _
          | skip
        refine Lead.bind (Lead.underlying h _) fun d => ?_
        split <;> exact Lead.pure _
    · exact Lead.stuck _
theorem Plays.execOp (h : FuncsOk V) (ρ : Operand → Value) (o : Oper) (ho : opOk V.re o = true) : Plays V (Go.execOp ρ o) := by
  have ht := h.tab
  unfold opOk at ho
  unfold Go.execOp
  cases hop : o.op <;> rw [hop] at ho <;> dsimp only at ho ⊢
  case move x => exact Plays.pure trivial
  case assign x => exact Plays.pure trivial
  case pick c a b => exact Plays.bind (Lead.asBool _) fun _ => Plays.pure trivial
  case alloc e => exact Plays.value (Lead.alloc ht _ _ _)
  case box e v => exact Plays.value (Lead.box ht _ _)
  case build t p => exact Plays.value (Lead.build ht _ _)
  case buildSlice t l p => exact Plays.value (Lead.buildSlice ht _ _ _)
  case insert t m k x => exact Plays.unit (Lead.mapUpdate ht _ _ _ _)
  case load t a => exact Plays.value (Lead.loadAt ht _ _)
  case store t a x => exact Plays.unit (Lead.storeAt ht _ _ _)
  case ready g => exact Plays.unit (Lead.ready ht _ (of_decide_eq_true ho))
  case waits g => exact Plays.value (Lead.waits ht _ (of_decide_eq_true ho))
  case nilCheck x =>
    split
    · exact Plays.panic ht _
    · exact Plays.panic ht _
    · exact Plays.panic ht _
    · split
      · exact Plays.panic ht _
      · refine Plays.program (by rw [ht.tables]) ?_
        refine Plays.bind (Lead.nilAhead ht _ _ _ _) fun r => ?_
        exact Plays.ite (Plays.soft _) (Plays.pure trivial)
      · exact Plays.pure trivial
    · exact Plays.pure trivial
  case binOp op t x y u => exact Plays.value (Lead.bind (Lead.eqGuard ht _ _ _ _ _ _) fun _ => Lead.binOp ht _ _ _ _)
  case unOp op t x => exact Plays.value (Lead.unary ht _ _)
  case convert a b x => exact Plays.value (Lead.convert ht _ _ _ ho)
  case sliceToArrayPointer a x => exact Plays.value (Lead.arrayAt ht _ _)
  case makeInterface t x => exact Plays.value (Lead.makeInterface ht _ _)
  case makeFunc f a b => exact Plays.value (Lead.makeFunc ht _ _ _)
  case makeMap t r => exact Plays.value (Lead.makeMap ht _ _)
  case makeChan t s => exact Plays.value (Lead.makeChan ht _ _)
  case makeSlice t l c => exact Plays.value (Lead.makeSlice ht _ _ _)
  case slice t x l hi m => exact Plays.value (Lead.sliceAt ht _ _ _ _ _)
  case fieldAddr t x f => exact Plays.value (Lead.fieldAt ht _ _ _)
  case field t x f => exact Plays.value (Lead.field ht _ _ _)
  case indexAddr t x i => exact Plays.value (Lead.indexAt ht _ _ _)
  case index t x i => exact Plays.value (Lead.index ht _ _ _)
  case lookup t x i b => exact Plays.value (Lead.lookup ht _ _ _ _)
  case mapUpdate t m k x => exact Plays.unit (Lead.mapUpdate ht _ _ _ _)
  case mapEntry t m k => exact Plays.value (Lead.mapEntry ht _ _ _)
  case entryStore t m s x => exact Plays.unit (Lead.entryStore ht _ _ _ _)
  case range t x => exact Plays.value (Lead.range ht _ _)
  case next i b =>
    cases b
    · exact Plays.value (Lead.next ht _ _)
    · cases ho
  case entry i => exact Plays.value (Lead.entry ht _)
  case typeAssert x t a b => exact Plays.value (Lead.typeAssert ht _ _ _ _)
  case extract t i => exact Plays.value (Lead.extract ht _ _)
  case call c => exact Plays.resolve _ _ ho _ fun d hd => Plays.invoke h _ hd _
  case defer c => exact Plays.resolve _ _ ho _ fun d hd => Plays.pure hd
  case panic x => exact Plays.value (Lead.panic ht _)
  case go c => cases ho
  case send c x => cases ho
  case recv t c b => cases ho
  case select c b => cases ho
end
end Go.Proofs.YtnikgcedifdaeaaGreatDoor.Lift
end

section
/- One step of a goroutine, walked alike in the shadow and in the true world. -/
namespace Go.Proofs.YtnikgcedifdaeaaGreatDoor.Lift
open Go Go.Conc
set_option linter.unusedSimpArgs false
set_option linter.unusedVariables false
section
variable {V : Env}
/-- A code whose every operation is walked alike. -/
def codeOk (P : Program) : Code → Bool
  | .region _ ops _ => ops.all (opOk P)
  | .seq a b | .cond _ a b => codeOk P a && codeOk P b
  | .block _ a | .loop a | .scope a => codeOk P a
  | .rangeFunc .. => false
  | _ => true
def itemOk (P : Program) : Item → Bool
  | .code c | .inLoop c | .inScope c => codeOk P c
  | .inBlock _ => true
  | .inRegion ops _ => ops.all (opOk P)
  | _ => false
structure FrameOk (V : Env) (fr : Frame) : Prop where
  round : fr.roundOf = none
  kind : fr.kind = .normal ∨ fr.kind = .deferred
  todo : ∀ it ∈ fr.todo, itemOk V.re it = true
  defers : ∀ d ∈ fr.defers, targetOk d.target = true
  fn : V.sh.funcs[fr.fn]? = V.re.funcs[fr.fn]?
  has : (V.sh.funcs[fr.fn]?).isSome = true
structure StepOk (V : Env) : Prop where
  funcs : FuncsOk V
  code : ∀ (f : Nat) fn c, V.sh.funcs[f]? = V.re.funcs[f]? → V.re.funcs[f]? = some fn → fn.body = some c → codeOk V.re c = true
/-- The two goroutines stand alike: in one frame, or at the head of a function whose bodies differ. -/
def Mate (V : Env) (tl1 tl2 : List Frame) (g1 g2 : Goroutine) : Prop :=
  ∃ cs a b, g1 = { frame := a, callers := cs ++ tl1, status := .running, dying := none } ∧ g2 = { frame := b, callers := cs ++ tl2, status := .running, dying := none } ∧ (∀ c ∈ cs, FrameOk V c) ∧
    ((b = a ∧ FrameOk V a) ∨ ∃ f args k, V.sh.funcs[f]? ≠ V.re.funcs[f]? ∧ (k = .normal ∨ k = .deferred) ∧ a = Frame.enter V.sh f args k ∧ b = Frame.enter V.re f args k)
/-- What a step in the shadow hands over to the true world. -/
def Carried (V : Env) (tl1 tl2 : List Frame) (Bad : Nat → Prop) (m : Nat) (w1 w2 : World) (s1 s2 : GStep) : Prop :=
  ∀ g1 w1' es1, s1 = .go g1 w1' es1 → g1.status = .running → g1.dying = none → (∃ cs, g1.callers = cs ++ tl1) → w1'.drawn ≤ w1.drawn + m →
    ∃ g2 w2' es2, s2 = .go g2 w2' es2 ∧ Out V Bad w1 w2 w1' w2' es2 ∧ Mate V tl1 tl2 g1 g2

theorem mem_seen (P : Program) (fn : FuncId) (es : Array Event) : ∀ e ∈ seen P fn es, e ∈ es := by
  intro e he
  unfold seen at he
  obtain ⟨l⟩ := es
  simp only [List.size_toArray, List.foldl_toArray'] at he
  have key : ∀ (l : List Event) (q : Bool) (kept : Array Event), e ∈ (l.foldl (fun (x : Bool × Array Event) e =>
      match x with
      | (q, kept) => match e.loc with
        | .mark (.extern f) => ((P.funcs[f]?).any (·.norace), kept)
        | _ => (q, if (q && !e.sync) = true then kept else kept.push e)) (q, kept)).2 → e ∈ kept ∨ e ∈ l := by
    intro l
    induction l with
    | nil => intro q kept h; exact .inl h
    | cons x l ih =>
      intro q kept h
      rw [List.foldl_cons] at h
      dsimp only at h
      split at h
      · rcases ih _ _ h with h1 | h1
        · exact .inl h1
        · exact .inr (List.mem_cons_of_mem _ h1)
      · rcases ih _ _ h with h1 | h1
        · split at h1
          · exact .inl h1
          · rcases Array.mem_push.1 h1 with h2 | h2
            · exact .inl h2
            · exact .inr (h2 ▸ List.mem_cons_self)
        · exact .inr (List.mem_cons_of_mem _ h1)
  rcases key l _ _ he with h1 | h1
  · simp at h1
  · simpa using h1
theorem Out.seen {Bad : Nat → Prop} {w1 w2 w1' w2' : World} {new : Array Event} (h : Out V Bad w1 w2 w1' w2' new) (P : Program) (fn : FuncId) : Out V Bad w1 w2 w1' w2' (Go.seen P fn new) :=
  ⟨h.sh, h.dr, h.t2, fun e he => h.evs e (mem_seen P fn new e he)⟩
theorem FrameOk.mk' {fr fr' : Frame} (h : FrameOk V fr) (e1 : fr'.roundOf = fr.roundOf) (e2 : fr'.kind = fr.kind) (e3 : fr'.fn = fr.fn) (ht : ∀ it ∈ fr'.todo, itemOk V.re it = true) (hd : ∀ d ∈ fr'.defers, targetOk d.target = true) : FrameOk V fr' :=
  ⟨e1.trans h.round, e2 ▸ h.kind, ht, hd, e3 ▸ h.fn, e3 ▸ h.has⟩
theorem FrameOk.finish {fr : Frame} (h : FrameOk V fr) (v : Value) : FrameOk V (fr.finish v) := by
  have ht := h.todo
  unfold Frame.finish
  split
  · rename_i ops i rest k heq
    rw [heq] at ht
    refine h.mk' rfl rfl rfl ?_ h.defers
    intro it hit
    rcases List.mem_cons.1 hit with rfl | hit
    · exact ht (.inRegion ops (i :: rest)) List.mem_cons_self
    · exact ht it (List.mem_cons_of_mem _ hit)
  · rename_i l k heq
    rw [heq] at ht
    exact absurd (ht _ List.mem_cons_self) (by simp [itemOk])
  · rename_i k heq
    rw [heq] at ht
    exact absurd (ht _ List.mem_cons_self) (by simp [itemOk])
  · rename_i k heq
    rw [heq] at ht
    exact absurd (ht _ List.mem_cons_self) (by simp [itemOk])
  · rename_i k heq
    rw [heq] at ht
    exact absurd (ht _ List.mem_cons_self) (by simp [itemOk])
  · exact h
theorem FrameOk.raise {fr : Frame} (h : FrameOk V fr) (vs : List PanicEntry) : FrameOk V (fr.raise vs) := by
  unfold Frame.raise
  split <;> exact h.mk' rfl rfl rfl h.todo h.defers
theorem FrameOk.moded {fr : Frame} (h : FrameOk V fr) (md : FrameMode) : FrameOk V { fr with mode := md } := h.mk' rfl rfl rfl h.todo h.defers
theorem FrameOk.enter {f : FuncId} {args : Array Value} {k : CallKind} (h : StepOk V) (hk : k = .normal ∨ k = .deferred) (he : V.sh.funcs[f]? = V.re.funcs[f]?) (hs : (V.sh.funcs[f]?).isSome = true) : FrameOk V (Frame.enter V.re f args k) := by
  refine ⟨rfl, hk, ?_, by simp [Frame.enter], he, hs⟩
  intro it hit
  obtain rfl : it = .code (((V.re.funcs[f]?).bind (·.body)).getD (.refuse "unsupported: a function without a Go body is entered")) := by simpa [Frame.enter] using hit
  cases hf : V.re.funcs[f]? with
  | none => rfl
  | some fn =>
    cases hb : fn.body with
    | none => simp [hb, itemOk, codeOk]
    | some c => simpa [hb, itemOk] using h.code f fn c he hf hb
theorem enter_same {f : FuncId} {args : Array Value} {k : CallKind} (he : V.sh.funcs[f]? = V.re.funcs[f]?) : Frame.enter V.sh f args k = Frame.enter V.re f args k := by
  unfold Frame.enter
  rw [he]
end
end Go.Proofs.YtnikgcedifdaeaaGreatDoor.Lift
end

section
/- One operation of a goroutine, walked alike. -/
namespace Go.Proofs.YtnikgcedifdaeaaGreatDoor.Lift
open Go Go.Conc
set_option linter.unusedSimpArgs false
set_option linter.unusedVariables false
section
variable {V : Env}
theorem Out.sub {Bad : Nat → Prop} {w1 w2 w1' w2' : World} {new es : Array Event} (h : Out V Bad w1 w2 w1' w2' new) (hs : ∀ e ∈ es, e ∈ new) : Out V Bad w1 w2 w1' w2' es :=
  ⟨h.sh, h.dr, h.t2, fun e he => h.evs e (hs e he)⟩
theorem recover_alike {tl1 tl2 : List Frame} (m1 : ∀ f ∈ tl1, f.mode = .run) (m2 : ∀ f ∈ tl2, f.mode = .run) {fr : Frame} (hk : fr.kind = .normal ∨ fr.kind = .deferred) (cs : List Frame) :
    (tryRecover fr (cs ++ tl1) = none ∧ tryRecover fr (cs ++ tl2) = none) ∨
    ∃ v c cs0 md, cs = c :: cs0 ∧ tryRecover fr (cs ++ tl1) = some (v, ({ c with mode := md } :: cs0) ++ tl1) ∧ tryRecover fr (cs ++ tl2) = some (v, ({ c with mode := md } :: cs0) ++ tl2) := by
  have nil : ∀ tl : List Frame, (∀ f ∈ tl, f.mode = .run) → fr.kind = .deferred → tryRecover fr tl = none := by
    intro tl h hd
    cases tl with
    | nil => unfold tryRecover; rw [hd]
    | cons c tl =>
      unfold tryRecover
      rw [hd]
      dsimp only
      rw [h c List.mem_cons_self]
  rcases hk with hk | hk
  · left
    constructor <;> (unfold tryRecover; rw [hk])
  · cases cs with
    | nil => exact .inl ⟨nil _ m1 hk, nil _ m2 hk⟩
    | cons c cs0 =>
      have key : ∀ tl, tryRecover fr ((c :: cs0) ++ tl) = (match c.mode with
          | .panicking ({ v, recovered := false, goexit := false } :: older) => some (v, ({ c with mode := .panicking ({ v, recovered := true } :: older) } :: cs0) ++ tl)
          | _ => none) := by
        intro tl
        show tryRecover fr (c :: (cs0 ++ tl)) = _
        unfold tryRecover
        rw [hk]
        rfl
      rw [key, key]
      split
      · exact .inr ⟨_, _, _, _, rfl, rfl, rfl⟩
      · exact .inl ⟨rfl, rfl⟩
theorem callKind_of {fr : Frame} (h : FrameOk V fr) : (match fr.todo with | .call _ true _ _ :: _ => CallKind.wrapped | _ => .normal) = .normal := by
  have ht := h.todo
  split
  · rename_i heq
    rw [heq] at ht
    exact absurd (ht _ List.mem_cons_self) (by simp [itemOk])
  · rfl
theorem mate_here {tl1 tl2 : List Frame} {cs : List Frame} (hcs : ∀ c ∈ cs, FrameOk V c) {a : Frame} (ha : FrameOk V a) :
    Mate V tl1 tl2 { frame := a, callers := cs ++ tl1, status := .running, dying := none } { frame := a, callers := cs ++ tl2, status := .running, dying := none } :=
  ⟨cs, a, a, rfl, rfl, hcs, .inl ⟨rfl, ha⟩⟩
theorem mate_enter (h : StepOk V) {tl1 tl2 : List Frame} {cs : List Frame} (hcs : ∀ c ∈ cs, FrameOk V c) {fr : Frame} (hf : FrameOk V fr) (f : FuncId) (hs : (V.sh.funcs[f]?).isSome = true) (args : Array Value) {k : CallKind} (hk : k = .normal ∨ k = .deferred) :
    Mate V tl1 tl2 { frame := Frame.enter V.sh f args k, callers := fr :: (cs ++ tl1), status := .running, dying := none } { frame := Frame.enter V.re f args k, callers := fr :: (cs ++ tl2), status := .running, dying := none } := by
  refine ⟨fr :: cs, _, _, rfl, rfl, fun c hc => ?_, ?_⟩
  · rcases List.mem_cons.1 hc with rfl | hc
    · exact hf
    · exact hcs c hc
  · by_cases he : V.sh.funcs[f]? = V.re.funcs[f]?
    · left
      rw [enter_same he]
      exact ⟨rfl, FrameOk.enter h hk he hs⟩
    · exact .inr ⟨f, args, k, he, hk, rfl, rfl⟩
theorem Lead.readyAt {α : Type} {s : Sem α} (h : Lead V s) (ht : V.sh.toTables = V.re.toTables) {w v : World} {e : Halt} (hc : Calm w) (hr : s.run V.sh w = .halt e v) (he : Soft e) : Ready e := by
  have h1 := h (fun _ => False) w w v.drawn #[] (fun _ _ => id) ⟨ht, rfl, fun _ _ => .inl rfl, fun _ hi => hi.elim, fun _ hi => hi.elim, rfl, rfl, hc, fun _ => rfl, fun _ _ _ => rfl, fun _ _ hi => hi.elim⟩ (fun _ _ => rfl)
  rw [hr] at h1
  exact (h1 he (by omega)).1
theorem apply_alike (h : StepOk V) {tl1 tl2 : List Frame} (m1 : ∀ f ∈ tl1, f.mode = .run) (m2 : ∀ f ∈ tl2, f.mode = .run) {Bad : Nat → Prop} {w1 w2 : World} {m : Nat} (hB : ∀ i, V.ok i → ¬ Bad i) (hS : Sh V Bad w1 w2) (hT : Tap m w1 w2)
    {fr : Frame} (hf : FrameOk V fr) {cs : List Frame} (hcs : ∀ c ∈ cs, FrameOk V c) {s : Sem Next} (hp : Plays V s) :
    Carried V tl1 tl2 Bad m w1 w2 (stepG.apply V.sh true fr (cs ++ tl1) none s w1) (stepG.apply V.re true fr (cs ++ tl2) none s w2) := by
  intro g1 w1' es1 hgo hst hdy hcl hm
  have lead := hp.lead Bad w1 w2 m #[] hB hS hT
  have hrun : s.run V.sh w1 = (s.runT V.sh w1 #[]).1 := (Sem.runT_fst ..).symm
  have hearly : (fr.kind == .early) = false := by rcases hf.kind with h | h <;> rw [h] <;> rfl
  unfold stepG.apply at hgo ⊢
  simp only [callKind_of hf, hearly, hf.round, Bool.false_eq_true, ↓reduceIte] at hgo ⊢
  rcases hx : s.runT V.sh w1 #[] with ⟨r1, e1⟩
  rw [hx] at hrun
  rw [hrun] at lead
  have sub : ∀ (new : Array Event) (es0 : Array Event), (∀ e ∈ es0, e ∈ new) → ∀ e ∈ es0 ++ #[], e ∈ new := by
    intro new es0 h0 e he
    exact h0 e (by simpa using he)
  have sub0 : ∀ (fn : FuncId) (new : Array Event), ∀ e ∈ seen V.re fn (#[] ++ new), e ∈ new := by
    intro fn new e he
    simpa using mem_seen V.re fn (#[] ++ new) e he
  simp only [hx] at hgo
  cases r1 with
  | ok n v1 =>
    have hn := hp.only hS.tab w1 n v1 hS.calm hrun
    cases n with
    | value x =>
      simp only [GStep.after, GStep.go.injEq] at hgo
      obtain ⟨rfl, rfl, _⟩ := hgo
      obtain ⟨v2, new, hx2, ho⟩ := lead hm
      simp only [hx2, GStep.after]
      exact ⟨_, _, _, rfl, ho.sub (sub _ _ (sub0 _ _)), mate_here hcs (hf.finish x)⟩
    | skip =>
      simp only [GStep.after, GStep.go.injEq] at hgo
      obtain ⟨rfl, rfl, _⟩ := hgo
      obtain ⟨v2, new, hx2, ho⟩ := lead hm
      simp only [hx2, GStep.after]
      exact ⟨_, _, _, rfl, ho.sub (sub _ _ (sub0 _ _)), mate_here hcs (hf.finish _)⟩
    | enter f args =>
      simp only [GStep.after, GStep.go.injEq] at hgo
      obtain ⟨rfl, rfl, _⟩ := hgo
      obtain ⟨v2, new, hx2, ho⟩ := lead hm
      simp only [hx2, GStep.after]
      exact ⟨_, _, _, rfl, ho.sub (sub _ _ (sub0 _ _)), mate_enter h hcs hf f hn args (.inl (callKind_of hf))⟩
    | defer d =>
      simp only [GStep.after, GStep.go.injEq] at hgo
      obtain ⟨rfl, rfl, _⟩ := hgo
      obtain ⟨v2, new, hx2, ho⟩ := lead hm
      simp only [hx2, GStep.after]
      refine ⟨_, _, _, rfl, ho.sub (sub _ _ (sub0 _ _)), mate_here hcs (FrameOk.finish ?_ _)⟩
      refine hf.mk' hf.round.symm rfl rfl hf.todo fun d' hd' => ?_
      rcases List.mem_cons.1 hd' with rfl | hd'
      · exact hn
      · exact hf.defers d' hd'
    | recover =>
      rcases recover_alike m1 m2 hf.kind cs with ⟨r1, r2⟩ | ⟨v, c, cs0, md, rfl, r1, r2⟩
      · simp only [r1, GStep.after, GStep.go.injEq] at hgo
        obtain ⟨rfl, rfl, _⟩ := hgo
        obtain ⟨v2, new, hx2, ho⟩ := lead hm
        simp only [hx2, r2, GStep.after]
        exact ⟨_, _, _, rfl, ho.sub (sub _ _ (sub0 _ _)), mate_here hcs (hf.finish _)⟩
      · simp only [r1, GStep.after, GStep.go.injEq] at hgo
        obtain ⟨rfl, rfl, _⟩ := hgo
        obtain ⟨v2, new, hx2, ho⟩ := lead hm
        simp only [hx2, r2, GStep.after]
        refine ⟨_, _, _, rfl, ho.sub (sub _ _ (sub0 _ _)), mate_here (fun c' hc' => ?_) (hf.finish _)⟩
        rcases List.mem_cons.1 hc' with rfl | hc'
        · exact (hcs c List.mem_cons_self).moded _
        · exact hcs c' (List.mem_cons_of_mem _ hc')
    | _ => exact hn.elim
  | halt hh v1 =>
    cases hh with
    | panic x =>
      simp only [GStep.after, GStep.go.injEq] at hgo
      obtain ⟨rfl, rfl, _⟩ := hgo
      obtain ⟨_, v2, new, hx2, ho⟩ := lead trivial hm
      simp only [hx2, GStep.after]
      exact ⟨_, _, _, rfl, ho.sub (sub _ _ (sub0 _ _)), mate_here hcs (hf.raise _)⟩
    | goexit =>
      simp only [GStep.after, GStep.go.injEq] at hgo
      obtain ⟨rfl, rfl, _⟩ := hgo
      obtain ⟨_, v2, new, hx2, ho⟩ := lead trivial hm
      simp only [hx2, GStep.after]
      exact ⟨_, _, _, rfl, ho.sub (sub _ _ (sub0 _ _)), mate_here hcs (hf.raise _)⟩
    | unsupported u =>
      cases u with
      | initOrder g => exact (hp.lead.readyAt hS.tab hS.calm hrun trivial).elim
      | _ => simp [GStep.after] at hgo
    | blocked =>
      simp only [GStep.after, GStep.go.injEq] at hgo
      obtain ⟨rfl, _⟩ := hgo
      cases hst
    | waiting =>
      simp only [GStep.after, GStep.go.injEq] at hgo
      obtain ⟨rfl, _⟩ := hgo
      cases hst
    | exit c => simp [GStep.after] at hgo
    | stuck c => simp [GStep.after] at hgo
    | fatal c =>
      exfalso
      unfold endFatal at hgo
      simp only at hgo
      split at hgo
      · simp only [dieOf, GStep.after, GStep.go.injEq] at hgo
        obtain ⟨rfl, _⟩ := hgo
        cases hdy
      · simp [GStep.after] at hgo
      · simp [GStep.after] at hgo
    | throw c =>
      simp only [endThrow, dieOf, GStep.after, GStep.go.injEq] at hgo
      obtain ⟨rfl, _⟩ := hgo
      cases hdy
end
end Go.Proofs.YtnikgcedifdaeaaGreatDoor.Lift
end

section
/- One step of a goroutine that runs, walked alike. -/
namespace Go.Proofs.YtnikgcedifdaeaaGreatDoor.Lift
open Go Go.Conc
set_option linter.unusedSimpArgs false
set_option linter.unusedVariables false
section
variable {V : Env}
theorem exitTo_sub : ∀ (k : List Item) (id : Nat) (k' : List Item), exitTo id k = some k' → ∀ it ∈ k', it ∈ k := by
  intro k
  induction k with
  | nil => intro id k' h; simp [exitTo] at h
  | cons x k ih =>
    intro id k' h it hit
    unfold exitTo at h
    split at h
    · rename_i id' k0 heq
      cases heq
      split at h
      · cases h
        exact List.mem_cons_of_mem _ hit
      · exact List.mem_cons_of_mem _ (ih id k' h it hit)
    · rename_i x0 k0 _ heq
      cases heq
      exact List.mem_cons_of_mem _ (ih id k' h it hit)
    · rename_i heq
      cases heq
theorem findLabel_ok {P : Program} : ∀ (c : Code) (l : Nat) (c' : Code), findLabel c l = some c' → codeOk P c = true → codeOk P c' = true := by
  intro c
  induction c with
  | seq a b iha ihb =>
    intro l c' h hc
    have h2 : codeOk P a = true ∧ codeOk P b = true := by simpa [codeOk] using hc
    unfold findLabel at h
    split at h
    · rename_i r hr
      cases h
      simp [codeOk, iha l r hr h2.1, h2.2]
    · exact ihb l c' h h2.2
  | label l' =>
    intro l c' h hc
    unfold findLabel at h
    split at h
    · cases h; rfl
    · cases h
  | _ => intro l c' h hc; simp [findLabel] at h
theorem gotoIn_ok {P : Program} : ∀ (k : List Item) (l : Nat) (k' : List Item), gotoIn l k = some k' → (∀ it ∈ k, itemOk P it = true) → ∀ it ∈ k', itemOk P it = true := by
  intro k
  induction k with
  | nil => intro l k' h; simp [gotoIn] at h
  | cons x k ih =>
    intro l k' h hk it hit
    unfold gotoIn at h
    split at h
    · rename_i body k0 heq
      cases heq
      split at h
      · rename_i rest hr
        cases h
        rcases List.mem_cons.1 hit with rfl | hit
        · exact findLabel_ok body l rest hr (hk (.inScope body) List.mem_cons_self)
        · exact hk it hit
      · exact ih l k' h (fun y hy => hk y (List.mem_cons_of_mem _ hy)) it hit
    · rename_i x0 k0 _ heq
      cases heq
      exact ih l k' h (fun y hy => hk y (List.mem_cons_of_mem _ hy)) it hit
    · rename_i heq
      cases heq
/-- A step that moves within the frame alone. -/
theorem carried_to {tl1 tl2 : List Frame} {Bad : Nat → Prop} {m : Nat} {w1 w2 : World} (hS : Sh V Bad w1 w2) {cs : List Frame} (hcs : ∀ c ∈ cs, FrameOk V c) {a : Frame} (ha : FrameOk V a) :
    Carried V tl1 tl2 Bad m w1 w2 (.go { frame := a, callers := cs ++ tl1, status := .running, dying := none } w1) (.go { frame := a, callers := cs ++ tl2, status := .running, dying := none } w2) := by
  intro g1 w1' es1 hgo hst hdy hcl hm
  simp only [GStep.go.injEq] at hgo
  obtain ⟨rfl, rfl, _⟩ := hgo
  exact ⟨_, _, _, rfl, Out.refl hS, mate_here hcs ha⟩
theorem carried_ended {tl1 tl2 : List Frame} {Bad : Nat → Prop} {m : Nat} {w1 w2 w : World} {o : Outcome} {s2 : GStep} {es : Array Event} : Carried V tl1 tl2 Bad m w1 w2 (.ended o w es) s2 := by
  intro g1 w1' es1 hgo
  cases hgo
theorem FrameOk.to {fr : Frame} (h : FrameOk V fr) {k : List Item} (hk : ∀ it ∈ k, itemOk V.re it = true) : FrameOk V { fr with todo := k } := h.mk' rfl rfl rfl hk h.defers
theorem oper_alike (h : StepOk V) {tl1 tl2 : List Frame} (m1 : ∀ f ∈ tl1, f.mode = .run) (m2 : ∀ f ∈ tl2, f.mode = .run) {Bad : Nat → Prop} {w1 w2 : World} {m : Nat} (hB : ∀ i, V.ok i → ¬ Bad i) (hS : Sh V Bad w1 w2) (hT : Tap m w1 w2)
    {fr : Frame} (hf : FrameOk V fr) {cs : List Frame} (hcs : ∀ c ∈ cs, FrameOk V c) :
    Carried V tl1 tl2 Bad m w1 w2 (stepG.oper V.sh true fr (cs ++ tl1) none w1) (stepG.oper V.re true fr (cs ++ tl2) none w2) := by
  unfold stepG.oper
  have ho : ∀ o, fr.oper? = some o → opOk V.re o = true := by
    intro o ho
    unfold Frame.oper? at ho
    have ht := hf.todo
    split at ho
    · rename_i ops i r k heq
      rw [heq] at ht
      have h1 := ht _ List.mem_cons_self
      simp only [itemOk, Array.all_eq_true_iff_forall_mem] at h1
      exact h1 o (Array.mem_of_getElem? ho)
    · cases ho
  cases hop : fr.oper? with
  | none => exact carried_ended
  | some o =>
    dsimp only
    rw [hf.round]
    exact apply_alike h m1 m2 hB hS hT hf hcs (Plays.execOp h.funcs _ o (ho o hop))
theorem exec_alike (h : StepOk V) {tl1 tl2 : List Frame} (m1 : ∀ f ∈ tl1, f.mode = .run) (m2 : ∀ f ∈ tl2, f.mode = .run) {Bad : Nat → Prop} {w1 w2 : World} {m : Nat} (hB : ∀ i, V.ok i → ¬ Bad i) (hS : Sh V Bad w1 w2) (hT : Tap m w1 w2)
    {fr : Frame} (hf : FrameOk V fr) {cs : List Frame} (hcs : ∀ c ∈ cs, FrameOk V c) :
    Carried V tl1 tl2 Bad m w1 w2 (stepG.exec V.sh true true fr (cs ++ tl1) none w1) (stepG.exec V.re true true fr (cs ++ tl2) none w2) := by
  obtain ⟨fn, tmps, todo, defers, mode, kind, ro⟩ := fr
  obtain rfl : ro = none := hf.round
  have ht : ∀ it ∈ todo, itemOk V.re it = true := hf.todo
  have to : ∀ {k : List Item}, (∀ it ∈ k, itemOk V.re it = true) → FrameOk V ⟨fn, tmps, k, defers, mode, kind, none⟩ := fun hk => hf.to hk
  have back : FrameOk V ⟨fn, tmps, todo, defers, .returning, kind, none⟩ := hf.moded _
  have cons : ∀ {x : Item} {k : List Item}, itemOk V.re x = true → (∀ it ∈ k, itemOk V.re it = true) → ∀ it ∈ x :: k, itemOk V.re it = true := by
    intro x k hx hk it hit
    rcases List.mem_cons.1 hit with rfl | hit
    · exact hx
    · exact hk it hit
  cases todo with
  | nil => exact carried_to hS hcs back
  | cons x k =>
    have tl : ∀ it ∈ k, itemOk V.re it = true := fun it hit => ht it (List.mem_cons_of_mem _ hit)
    have hx := ht x List.mem_cons_self
    cases x with
    | code c =>
      cases c with
      | skip => exact carried_to hS hcs (to tl)
      | label l => exact carried_to hS hcs (to tl)
      | ret => exact carried_to hS hcs back
      | refuse y => exact carried_ended
      | seq a b =>
        simp only [itemOk, codeOk, Bool.and_eq_true] at hx
        exact carried_to hS hcs (to (cons hx.1 (cons hx.2 tl)))
      | cond c a b =>
        simp only [itemOk, codeOk, Bool.and_eq_true] at hx
        unfold stepG.exec
        dsimp only
        have e : Frame.eval ⟨fn, tmps, .code (.cond c a b) :: k, defers, mode, kind, none⟩ c = Frame.eval ⟨fn, tmps, .code (.cond c a b) :: k, defers, mode, kind, none⟩ c := rfl
        generalize Frame.eval ⟨fn, tmps, .code (.cond c a b) :: k, defers, mode, kind, none⟩ c = v
        cases v with
        | bool t =>
          refine carried_to hS hcs (to (cons ?_ tl))
          cases t
          · exact hx.2
          · exact hx.1
        | _ => exact carried_ended
      | block i b => exact carried_to hS hcs (to (cons hx (cons rfl tl)))
      | loop b => exact carried_to hS hcs (to (cons hx (cons hx tl)))
      | scope b => exact carried_to hS hcs (to (cons hx (cons hx tl)))
      | exit i =>
        unfold stepG.exec
        dsimp only
        cases he : exitTo i k with
        | none => exact carried_ended
        | some k' => exact carried_to hS hcs (to fun it hit => tl it (exitTo_sub k i k' he it hit))
      | goto l =>
        unfold stepG.exec
        dsimp only
        cases he : gotoIn l k with
        | none => exact carried_ended
        | some k' => exact carried_to hS hcs (to (gotoIn_ok k l k' he tl))
      | rangeFunc a b c d => cases hx
      | region id ops draw =>
        unfold stepG.exec
        dsimp only
        cases draw with
        | false => exact carried_to hS hcs (to (cons hx tl))
        | true =>
          simp only [Bool.not_true, Bool.false_eq_true, ↓reduceIte]
          have lead := Lead.choose (V := V) (.order fn id) Bad w1 w2 m #[] hB hS hT
          intro g1 w1' es1 hgo hst hdy hcl hm
          cases hr : (Go.choose (.order fn id)).run V.sh w1 with
          | halt e v => rw [hr] at hgo; cases hgo
          | ok t v1 =>
            rw [hr] at lead hgo
            simp only [GStep.go.injEq] at hgo
            obtain ⟨rfl, rfl, _⟩ := hgo
            obtain ⟨v2, new, hx2, ho⟩ := lead hm
            have h2 : (Go.choose (.order fn id)).run V.re w2 = .ok t v2 := by rw [← Sem.runT_fst V.re _ w2 #[], hx2]
            rw [h2]
            dsimp only
            have hfo : V.re.follows = V.sh.follows := by
              have := h.funcs.tab.tables
              funext d
              show V.re.toTables.follows d = V.sh.toTables.follows d
              rw [this]
            rw [hfo]
            exact ⟨_, _, _, rfl, ho.sub (by simp), mate_here hcs (to (cons hx tl))⟩
    | inBlock i => exact carried_to hS hcs (to tl)
    | inScope b => exact carried_to hS hcs (to tl)
    | inLoop b => exact carried_to hS hcs (to (cons hx (cons hx tl)))
    | inRegion ops l =>
      cases l with
      | nil => exact carried_to hS hcs (to tl)
      | cons i r =>
        unfold stepG.exec
        dsimp only
        split
        · exact oper_alike h m1 m2 hB hS hT hf hcs
        · exact carried_to hS hcs (hf.finish _)
    | _ => cases hx
end
end Go.Proofs.YtnikgcedifdaeaaGreatDoor.Lift
end

section
/- A goroutine's whole step, walked alike. -/
namespace Go.Proofs.YtnikgcedifdaeaaGreatDoor.Lift
open Go Go.Conc
set_option linter.unusedSimpArgs false
set_option linter.unusedVariables false
section
variable {V : Env}
theorem Lead.results (h : Tab V) (fn : Func) (tmps : Array Value) : Lead V (Go.results fn tmps) := by
  unfold Go.results
  refine Lead.bind (Lead.mapArray _ (fun r => ?_) _) fun _ => Lead.pure _
  split
  · exact Lead.pure _
  · exact Lead.bind (Lead.asAddr h _) fun _ => Lead.loadVar h _ _
/-- A frame goes back to its caller. -/
theorem return_alike {tl1 tl2 : List Frame} (t1 : tl1 ≠ []) {Bad : Nat → Prop} {m : Nat} {w1 w2 v1 v2 : World} {new : Array Event} (ho : Out V Bad w1 w2 v1 v2 new) {fr : Frame} (hf : FrameOk V fr) {cs : List Frame} (hcs : ∀ c ∈ cs, FrameOk V c) (v : Value) (es1 es2 : Array Event) (hsub : ∀ e ∈ es2, e ∈ new) :
    Carried V tl1 tl2 Bad m w1 w2 (GStep.after es1 (doReturn V.sh true fr (cs ++ tl1) none v v1)) (GStep.after es2 (doReturn V.re true fr (cs ++ tl2) none v v2)) := by
  intro g1 w1' es1' hgo hst hdy hcl hm
  obtain ⟨cs', hcl⟩ := hcl
  cases cs with
  | nil =>
    exfalso
    cases tl1 with
    | nil => exact t1 rfl
    | cons c r =>
      unfold doReturn at hgo
      simp only [List.nil_append] at hgo
      have : g1.callers = r := by
        rcases hf.kind with hk | hk <;> rw [hk] at hgo <;> simp only [GStep.after, GStep.go.injEq] at hgo <;> rw [← hgo.1]
      rw [this] at hcl
      have := congrArg List.length hcl
      simp at this
      omega
  | cons c r =>
    have hc := hcs c List.mem_cons_self
    have hr : ∀ x ∈ r, FrameOk V x := fun x hx => hcs x (List.mem_cons_of_mem _ hx)
    rcases hf.kind with hk | hk
    · unfold doReturn at hgo ⊢
      simp only [List.cons_append, hk, GStep.after, GStep.go.injEq] at hgo ⊢
      obtain ⟨rfl, rfl, _⟩ := hgo
      exact ⟨_, _, _, ⟨rfl, rfl, rfl⟩, ho.sub (by simpa using hsub), mate_here hr (hc.finish v)⟩
    · unfold doReturn at hgo ⊢
      simp only [List.cons_append, hk, GStep.after, GStep.go.injEq] at hgo ⊢
      obtain ⟨rfl, rfl, _⟩ := hgo
      refine ⟨_, _, _, ⟨rfl, rfl, rfl⟩, ho.sub (by simpa using hsub), mate_here hr ?_⟩
      split
      · split <;> exact hc.moded _
      · exact hc
theorem ite_go {c : Prop} [Decidable c] {o : Outcome} {w0 w : World} {b : GStep} {g : Goroutine} {es0 es : Array Event} (h : (if c then GStep.ended o w0 es0 else b) = .go g w es) : ¬ c ∧ b = .go g w es := by
  by_cases hc : c
  · rw [if_pos hc] at h; cases h
  · rw [if_neg hc] at h; exact ⟨hc, h⟩
theorem deferred_alike (h : StepOk V) {tl1 tl2 : List Frame} (m1 : ∀ f ∈ tl1, f.mode = .run) (m2 : ∀ f ∈ tl2, f.mode = .run) {Bad : Nat → Prop} {w1 w2 : World} {m : Nat} (hB : ∀ i, V.ok i → ¬ Bad i) (hS : Sh V Bad w1 w2) (hT : Tap m w1 w2)
    {fr : Frame} (hf : FrameOk V fr) {cs : List Frame} (hcs : ∀ c ∈ cs, FrameOk V c) {d : Deferred} (hd : targetOk d.target = true) :
    Carried V tl1 tl2 Bad m w1 w2 (callDeferred V.sh fr (cs ++ tl1) none d w1) (callDeferred V.re fr (cs ++ tl2) none d w2) := by
  intro g1 w1' es1 hgo hst hdy hcl hm
  have hp := Plays.invoke h.funcs d.target hd d.args
  have lead := hp.lead Bad w1 w2 m #[] hB hS hT
  have hrun : (invoke d.target d.args).run V.sh w1 = ((invoke d.target d.args).runT V.sh w1 #[]).1 := (Sem.runT_fst ..).symm
  unfold callDeferred at hgo ⊢
  obtain ⟨hn, hgo⟩ := ite_go hgo
  rw [if_neg hn]
  rcases hx : (invoke d.target d.args).runT V.sh w1 #[] with ⟨r1, e1⟩
  rw [hx] at hrun
  rw [hrun] at lead
  have sub : ∀ (new : Array Event), ∀ e ∈ seen V.re fr.fn (#[] ++ new) ++ #[], e ∈ new := by
    intro new e he
    have := mem_seen V.re fr.fn (#[] ++ new) e (by simpa using he)
    simpa using this
  simp only [hx] at hgo
  cases r1 with
  | ok n v1 =>
    have hn := hp.only hS.tab w1 n v1 hS.calm hrun
    cases n with
    | value x =>
      simp only [GStep.after, GStep.go.injEq] at hgo
      obtain ⟨rfl, rfl, _⟩ := hgo
      obtain ⟨v2, new, hx2, ho⟩ := lead hm
      simp only [hx2, GStep.after]
      exact ⟨_, _, _, rfl, ho.sub (sub _), mate_here hcs hf⟩
    | skip =>
      simp only [GStep.after, GStep.go.injEq] at hgo
      obtain ⟨rfl, rfl, _⟩ := hgo
      obtain ⟨v2, new, hx2, ho⟩ := lead hm
      simp only [hx2, GStep.after]
      exact ⟨_, _, _, rfl, ho.sub (sub _), mate_here hcs hf⟩
    | enter f args =>
      simp only [GStep.after, GStep.go.injEq] at hgo
      obtain ⟨rfl, rfl, _⟩ := hgo
      obtain ⟨v2, new, hx2, ho⟩ := lead hm
      simp only [hx2, GStep.after]
      exact ⟨_, _, _, rfl, ho.sub (sub _), mate_enter h hcs hf f hn args (.inr rfl)⟩
    | defer d =>
      simp only [GStep.after, GStep.go.injEq] at hgo
      obtain ⟨rfl, rfl, _⟩ := hgo
      obtain ⟨v2, new, hx2, ho⟩ := lead hm
      simp only [hx2, GStep.after]
      exact ⟨_, _, _, rfl, ho.sub (sub _), mate_here hcs hf⟩
    | recover =>
      rcases recover_alike m1 m2 hf.kind cs with ⟨r1, r2⟩ | ⟨v, c, cs0, md, rfl, r1, r2⟩
      · cases hmode : fr.mode <;>
        · simp only [r1, hmode, GStep.after, GStep.go.injEq] at hgo
          obtain ⟨rfl, rfl, _⟩ := hgo
          obtain ⟨v2, new, hx2, ho⟩ := lead hm
          simp only [hx2, r2, hmode, GStep.after]
          exact ⟨_, _, _, rfl, ho.sub (sub _), mate_here hcs hf⟩
      · cases hmode : fr.mode with
        | returning =>
          simp only [r1, hmode, GStep.after, GStep.go.injEq] at hgo
          obtain ⟨rfl, rfl, _⟩ := hgo
          obtain ⟨v2, new, hx2, ho⟩ := lead hm
          simp only [hx2, r2, hmode, GStep.after]
          refine ⟨_, _, _, rfl, ho.sub (sub _), mate_here (fun c' hc' => ?_) hf⟩
          rcases List.mem_cons.1 hc' with rfl | hc'
          · exact (hcs c List.mem_cons_self).moded _
          · exact hcs c' (List.mem_cons_of_mem _ hc')
        | _ =>
          simp only [r1, hmode, GStep.after, GStep.go.injEq] at hgo
          obtain ⟨rfl, rfl, _⟩ := hgo
          obtain ⟨v2, new, hx2, ho⟩ := lead hm
          simp only [hx2, r2, hmode, GStep.after]
          exact ⟨_, _, _, rfl, ho.sub (sub _), mate_here hcs hf⟩
    | _ => exact hn.elim
  | halt hh v1 =>
    cases hh with
    | panic x =>
      simp only [GStep.after, GStep.go.injEq] at hgo
      obtain ⟨rfl, rfl, _⟩ := hgo
      obtain ⟨_, v2, new, hx2, ho⟩ := lead trivial hm
      simp only [hx2, GStep.after]
      exact ⟨_, _, _, rfl, ho.sub (sub _), mate_here hcs (hf.raise _)⟩
    | goexit =>
      simp only [GStep.after, GStep.go.injEq] at hgo
      obtain ⟨rfl, rfl, _⟩ := hgo
      obtain ⟨_, v2, new, hx2, ho⟩ := lead trivial hm
      simp only [hx2, GStep.after]
      exact ⟨_, _, _, rfl, ho.sub (sub _), mate_here hcs (hf.raise _)⟩
    | unsupported u => simp [GStep.after] at hgo
    | blocked =>
      simp only [GStep.after, GStep.go.injEq] at hgo
      obtain ⟨rfl, _⟩ := hgo
      cases hst
    | waiting =>
      simp only [GStep.after, GStep.go.injEq] at hgo
      obtain ⟨rfl, _⟩ := hgo
      cases hst
    | exit c => simp [GStep.after] at hgo
    | stuck c => simp [GStep.after] at hgo
    | fatal c =>
      exfalso
      unfold endFatal at hgo
      simp only at hgo
      split at hgo
      · simp only [dieOf, GStep.after, GStep.go.injEq] at hgo
        obtain ⟨rfl, _⟩ := hgo
        cases hdy
      · simp [GStep.after] at hgo
      · simp [GStep.after] at hgo
    | throw c =>
      simp only [endThrow, dieOf, GStep.after, GStep.go.injEq] at hgo
      obtain ⟨rfl, _⟩ := hgo
      cases hdy
theorem unwind_alike (h : StepOk V) {tl1 tl2 : List Frame} (t1 : tl1 ≠ []) (m1 : ∀ f ∈ tl1, f.mode = .run) (m2 : ∀ f ∈ tl2, f.mode = .run) {Bad : Nat → Prop} {w1 w2 : World} {m : Nat} (hB : ∀ i, V.ok i → ¬ Bad i) (hS : Sh V Bad w1 w2) (hT : Tap m w1 w2)
    {fr : Frame} (hf : FrameOk V fr) {cs : List Frame} (hcs : ∀ c ∈ cs, FrameOk V c) :
    Carried V tl1 tl2 Bad m w1 w2 (unwind V.sh true fr (cs ++ tl1) none w1) (unwind V.re true fr (cs ++ tl2) none w2) := by
  have hdf := hf.defers
  have hca : fr.catches V.sh = fr.catches V.re := by
    unfold Frame.catches
    rw [hf.fn]
  unfold unwind
  split
  · rename_i b a ds heq
    rw [heq] at hdf
    exact absurd (hdf _ List.mem_cons_self) (by simp [targetOk])
  · rename_i d ds _ heq
    rw [heq] at hdf
    have hf' : FrameOk V { fr with defers := ds } := hf.mk' rfl rfl rfl hf.todo fun x hx => hdf x (List.mem_cons_of_mem _ hx)
    exact deferred_alike h m1 m2 hB hS hT hf' hcs (hdf d List.mem_cons_self)
  · cases hmode : fr.mode with
    | run => exact carried_ended
    | panicking chain =>
      dsimp only
      rw [hca]
      split
      · exact carried_ended
      · intro g1 w1' es1 hgo hst hdy hcl hm
        obtain ⟨cs', hcl⟩ := hcl
        cases cs with
        | nil =>
          exfalso
          cases tl1 with
          | nil => exact t1 rfl
          | cons c r =>
            simp only [List.nil_append, GStep.go.injEq] at hgo
            rw [← hgo.1] at hcl
            have := congrArg List.length hcl
            simp at this
            omega
        | cons c r =>
          have hc := hcs c List.mem_cons_self
          have hr : ∀ x ∈ r, FrameOk V x := fun x hx => hcs x (List.mem_cons_of_mem _ hx)
          simp only [List.cons_append, GStep.go.injEq] at hgo ⊢
          obtain ⟨rfl, rfl, _⟩ := hgo
          exact ⟨_, _, _, ⟨rfl, rfl, rfl⟩, Out.refl hS, mate_here hr (hc.raise chain)⟩
    | returning =>
      dsimp only
      obtain ⟨fn, hfn⟩ := Option.isSome_iff_exists.1 hf.has
      have hfn2 : V.re.funcs[fr.fn]? = some fn := hf.fn ▸ hfn
      rw [hfn, hfn2]
      dsimp only
      have lead := Lead.results h.funcs.tab fn fr.tmps Bad w1 w2 m #[] hB hS hT
      have hrun : (results fn fr.tmps).run V.sh w1 = ((results fn fr.tmps).runT V.sh w1 #[]).1 := (Sem.runT_fst ..).symm
      rcases hx : (results fn fr.tmps).runT V.sh w1 #[] with ⟨r1, e1⟩
      rw [hx] at hrun
      rw [hrun] at lead
      intro g1 w1' es1 hgo hst hdy hcl hm
      simp only [hx] at hgo
      cases r1 with
      | ok v v1 =>
        have hd : w1'.drawn = v1.drawn := by
          obtain ⟨cs', hcl⟩ := hcl
          cases cs with
          | nil =>
            cases tl1 with
            | nil => exact absurd rfl t1
            | cons c r =>
              unfold doReturn at hgo
              rcases hf.kind with hk | hk <;> simp only [List.nil_append, hk, GStep.after, GStep.go.injEq] at hgo <;> rw [hgo.2.1]
          | cons c r =>
            unfold doReturn at hgo
            rcases hf.kind with hk | hk <;> simp only [List.cons_append, hk, GStep.after, GStep.go.injEq] at hgo <;> rw [hgo.2.1]
        obtain ⟨v2, new, hx2, ho⟩ := lead (by omega)
        simp only [hx2]
        exact return_alike t1 ho hf hcs v _ _ (fun e he => by simpa using mem_seen V.re fr.fn (#[] ++ new) e he) g1 w1' es1 hgo hst hdy hcl hm
      | halt hh v1 => cases hh <;> simp [GStep.after] at hgo
theorem step_alike (h : StepOk V) {tl1 tl2 : List Frame} (t1 : tl1 ≠ []) (m1 : ∀ f ∈ tl1, f.mode = .run) (m2 : ∀ f ∈ tl2, f.mode = .run) {Bad : Nat → Prop} {w1 w2 : World} {m : Nat} (hB : ∀ i, V.ok i → ¬ Bad i) (hS : Sh V Bad w1 w2) (hT : Tap m w1 w2)
    {fr : Frame} (hf : FrameOk V fr) {cs : List Frame} (hcs : ∀ c ∈ cs, FrameOk V c) :
    Carried V tl1 tl2 Bad m w1 w2 (stepG V.sh true { frame := fr, callers := cs ++ tl1, status := .running, dying := none } w1) (stepG V.re true { frame := fr, callers := cs ++ tl2, status := .running, dying := none } w2) := by
  unfold stepG
  dsimp only
  cases hmode : fr.mode with
  | run => exact exec_alike h m1 m2 hB hS hT hf hcs
  | _ => exact unwind_alike h t1 m1 m2 hB hS hT hf hcs
end
end Go.Proofs.YtnikgcedifdaeaaGreatDoor.Lift
end

section
/- What a step in the shadow may be: the run's end, a step on, or the way back to the bottom frame, at which the run ends. -/
namespace Go.Proofs.YtnikgcedifdaeaaGreatDoor.Lift
open Go Go.Conc
set_option linter.unusedSimpArgs false
set_option linter.unusedVariables false
section
variable {V : Env}
/-- The frame under all others: who comes back to it, or falls through it, ends the run. -/
def bot (P : Program) : Frame := { fn := P.funcs.size, tmps := #[], todo := [.call { target := .collected 0, args := #[] } false "fmt's door of the lift" #[]], defers := [], mode := .run, kind := .normal }
def Bottom (P : Program) (g : Goroutine) : Prop := g.callers = [] ∧ (g.frame = bot P ∨ (∃ v, g.frame = (bot P).finish v) ∨ ∃ ch, g.frame = (bot P).raise ch)
def Class (P : Program) (w0 : World) (s : GStep) : Prop :=
  (∃ o w es, s = .ended o w es) ∨ ∃ g w es, s = .go g w es ∧ Later w0 w ∧ g.status = .running ∧ g.dying = none ∧ ((∃ cs, g.callers = cs ++ [bot P]) ∨ Bottom P g)
theorem Class.after {P : Program} {w0 : World} {s : GStep} (h : Class P w0 s) (es : Array Event) : Class P w0 (GStep.after es s) := by
  rcases h with ⟨o, w, es', rfl⟩ | ⟨g, w, es', rfl, h⟩
  · exact .inl ⟨_, _, _, rfl⟩
  · exact .inr ⟨_, _, _, rfl, h⟩
theorem Class.ended {P : Program} {w0 : World} {o : Outcome} {w : World} {es : Array Event} : Class P w0 (.ended o w es) := .inl ⟨_, _, _, rfl⟩
theorem Class.go {P : Program} {w0 : World} {fr : Frame} {cs : List Frame} {w : World} {es : Array Event} (hl : Later w0 w := by first | assumption | exact Later.refl _) : Class P w0 (.go { frame := fr, callers := cs ++ [bot P], status := .running, dying := none } w es) :=
  .inr ⟨_, _, _, rfl, hl, rfl, rfl, .inl ⟨_, rfl⟩⟩
theorem Class.push {P : Program} {w0 : World} {fr c : Frame} {cs : List Frame} {w : World} {es : Array Event} (hl : Later w0 w := by first | assumption | exact Later.refl _) : Class P w0 (.go { frame := fr, callers := c :: (cs ++ [bot P]), status := .running, dying := none } w es) :=
  Class.go (cs := c :: cs) hl
theorem bot_run {P : Program} : ∀ f ∈ [bot P], f.mode = .run := by
  intro f hf
  obtain rfl : f = bot P := by simpa using hf
  rfl
theorem apply_class (hp : StepOk V) {P : Program} {w : World} (ht : V.sh.toTables = V.re.toTables) (hc : Calm w) {fr : Frame} (hf : FrameOk V fr) {cs : List Frame} {s : Sem Next} (hs : Plays V s) :
    Class P w (stepG.apply V.sh true fr (cs ++ [bot P]) none s w) := by
  have hrun : s.run V.sh w = (s.runT V.sh w #[]).1 := (Sem.runT_fst ..).symm
  unfold stepG.apply
  simp only [hf.round, ↓reduceIte]
  rcases hx : s.runT V.sh w #[] with ⟨r1, e1⟩
  rw [hx] at hrun
  have hl0 : Later w (Result.world r1) := by
    have := later_run V.sh s w
    rw [hrun] at this
    exact this
  dsimp only
  refine Class.after ?_ _
  cases r1 with
  | ok n v1 =>
    have hl : Later w v1 := hl0
    have hn := hs.only ht w n v1 hc hrun
    cases n with
    | value x => exact Class.go
    | skip => exact Class.go
    | enter f args => exact Class.push
    | defer d => exact Class.go
    | recover =>
      dsimp only
      rcases recover_alike (tl1 := [bot P]) (tl2 := [bot P]) bot_run bot_run hf.kind cs with ⟨r1, r2⟩ | ⟨v, c, cs0, md, rfl, r1, r2⟩
      · rw [r1]; exact Class.go
      · rw [r1]; exact Class.go (cs := _ :: _)
    | _ => exact hn.elim
  | halt hh v1 =>
    have hl : Later w v1 := hl0
    cases hh with
    | panic x => exact Class.go
    | goexit => exact Class.go
    | unsupported u =>
      cases u with
      | initOrder g => exact (hs.lead.readyAt ht hc hrun trivial).elim
      | _ => exact Class.ended
    | exit c => exact Class.ended
    | stuck c => exact Class.ended
    | _ => exact (hs.lead.readyAt ht hc hrun trivial).elim
theorem exec_class (h : StepOk V) {P : Program} {w : World} (ht : V.sh.toTables = V.re.toTables) (hc : Calm w) {fr : Frame} (hf : FrameOk V fr) {cs : List Frame} :
    Class P w (stepG.exec V.sh true true fr (cs ++ [bot P]) none w) := by
  have hop : Class P w (stepG.oper V.sh true fr (cs ++ [bot P]) none w) := by
    unfold stepG.oper
    cases ho : fr.oper? with
    | none => exact Class.ended
    | some o =>
      dsimp only
      rw [hf.round]
      refine apply_class h ht hc hf (Plays.execOp h.funcs _ o ?_)
      unfold Frame.oper? at ho
      have htd := hf.todo
      split at ho
      · rename_i ops i r k heq
        rw [heq] at htd
        have h1 := htd _ List.mem_cons_self
        simp only [itemOk, Array.all_eq_true_iff_forall_mem] at h1
        exact h1 o (Array.mem_of_getElem? ho)
      · cases ho
  obtain ⟨fn, tmps, todo, defers, mode, kind, ro⟩ := fr
  obtain rfl : ro = none := hf.round
  have htd : ∀ it ∈ todo, itemOk V.re it = true := hf.todo
  cases todo with
  | nil => exact Class.go
  | cons x k =>
    have hx := htd x List.mem_cons_self
    cases x with
    | code c =>
      cases c with
      | skip => exact Class.go
      | label l => exact Class.go
      | ret => exact Class.go
      | refuse y => exact Class.ended
      | seq a b => exact Class.go
      | cond c a b =>
        unfold stepG.exec
        dsimp only
        generalize Frame.eval ⟨fn, tmps, .code (.cond c a b) :: k, defers, mode, kind, none⟩ c = v
        cases v <;> first | exact Class.go | exact Class.ended
      | block i b => exact Class.go
      | loop b => exact Class.go
      | scope b => exact Class.go
      | exit i =>
        unfold stepG.exec
        dsimp only
        cases he : exitTo i k with
        | none => exact Class.ended
        | some k' => exact Class.go
      | goto l =>
        unfold stepG.exec
        dsimp only
        cases he : gotoIn l k with
        | none => exact Class.ended
        | some k' => exact Class.go
      | rangeFunc a b c d => cases hx
      | region id ops draw =>
        unfold stepG.exec
        dsimp only
        split
        · exact Class.go
        · split
          · rename_i t v1 heq
            have hl : Later w v1 := by
              have := later_run V.sh (choose (.order fn id)) w
              rw [heq] at this
              exact this
            exact Class.go
          · exact Class.ended
    | inBlock i => exact Class.go
    | inScope b => exact Class.go
    | inLoop b => exact Class.go
    | inRegion ops l =>
      cases l with
      | nil => exact Class.go
      | cons i r =>
        unfold stepG.exec
        dsimp only
        split
        · exact hop
        · exact Class.go
    | _ => cases hx
theorem return_class {P Q : Program} {fr : Frame} (hf : FrameOk V fr) {cs : List Frame} {v : Value} {w0 w : World} (hl : Later w0 w) : Class P w0 (doReturn Q true fr (cs ++ [bot P]) none v w) := by
  unfold doReturn
  cases cs with
  | nil =>
    rcases hf.kind with hk | hk <;> rw [hk]
    · exact .inr ⟨_, _, _, rfl, hl, rfl, rfl, .inr ⟨rfl, .inr (.inl ⟨_, rfl⟩)⟩⟩
    · exact .inr ⟨_, _, _, rfl, hl, rfl, rfl, .inr ⟨rfl, .inl rfl⟩⟩
  | cons c r =>
    rcases hf.kind with hk | hk <;> rw [hk] <;> exact Class.go
theorem unwind_class (h : StepOk V) {P : Program} {w : World} (ht : V.sh.toTables = V.re.toTables) (hc : Calm w) {fr : Frame} (hf : FrameOk V fr) {cs : List Frame} :
    Class P w (unwind V.sh true fr (cs ++ [bot P]) none w) := by
  unfold unwind
  have hdf := hf.defers
  split
  · rename_i b a ds heq
    rw [heq] at hdf
    exact absurd (hdf _ List.mem_cons_self) (by simp [targetOk])
  · rename_i d ds _ heq
    rw [heq] at hdf
    have hd := hdf d List.mem_cons_self
    have hs := Plays.invoke h.funcs d.target hd d.args
    have hf' : FrameOk V { fr with defers := ds } := hf.mk' rfl rfl rfl hf.todo fun x hx => hdf x (List.mem_cons_of_mem _ hx)
    generalize ({ fr with defers := ds } : Frame) = fr at hf'
    have hrun : (invoke d.target d.args).run V.sh w = ((invoke d.target d.args).runT V.sh w #[]).1 := (Sem.runT_fst ..).symm
    unfold callDeferred
    rcases hx : (invoke d.target d.args).runT V.sh w #[] with ⟨r1, e1⟩
    rw [hx] at hrun
    have hl0 : Later w (Result.world r1) := by
      have := later_run V.sh (invoke d.target d.args) w
      rw [hrun] at this
      exact this
    dsimp only
    refine (fun (c : Prop) [Decidable c] (a b : GStep) (ha : Class P w a) (hb : Class P w b) => (show Class P w (if c then a else b) by split <;> assumption)) _ _ _ Class.ended (Class.after ?_ _)
    cases r1 with
    | ok n v1 =>
      have hl : Later w v1 := hl0
      have hn := hs.only ht w n v1 hc hrun
      cases n with
      | value x => exact Class.go
      | skip => exact Class.go
      | enter f args => exact Class.push
      | defer d => exact Class.go
      | recover =>
        dsimp only
        rcases recover_alike (tl1 := [bot P]) (tl2 := [bot P]) bot_run bot_run hf'.kind cs with ⟨r1, r2⟩ | ⟨v, c, cs0, md, rfl, r1, r2⟩
        · cases hmode : fr.mode <;> rw [r1] <;> exact Class.go
        · cases hmode : fr.mode <;> rw [r1] <;> exact Class.go (cs := _ :: _)
      | _ => exact hn.elim
    | halt hh v1 =>
      have hl : Later w v1 := hl0
      cases hh with
      | panic x => exact Class.go
      | goexit => exact Class.go
      | unsupported u => exact Class.ended
      | exit c => exact Class.ended
      | stuck c => exact Class.ended
      | _ => exact (hs.lead.readyAt ht hc hrun trivial).elim
  · cases hmode : fr.mode with
    | run => exact Class.ended
    | panicking chain =>
      dsimp only
      split
      · exact Class.ended
      · cases cs with
        | nil => exact .inr ⟨_, _, _, rfl, Later.refl _, rfl, rfl, .inr ⟨rfl, .inr (.inr ⟨_, rfl⟩)⟩⟩
        | cons c r => exact Class.go
    | returning =>
      dsimp only
      obtain ⟨fn, hfn⟩ := Option.isSome_iff_exists.1 hf.has
      rw [hfn]
      dsimp only
      have hrun : (results fn fr.tmps).run V.sh w = ((results fn fr.tmps).runT V.sh w #[]).1 := (Sem.runT_fst ..).symm
      rcases hx : (results fn fr.tmps).runT V.sh w #[] with ⟨r1, e1⟩
      rw [hx] at hrun
      have hl0 : Later w (Result.world r1) := by
        have := later_run V.sh (results fn fr.tmps) w
        rw [hrun] at this
        exact this
      dsimp only
      refine Class.after ?_ _
      cases r1 with
      | ok v v1 => exact return_class hf hl0
      | halt hh v1 => cases hh <;> exact Class.ended
theorem step_class (h : StepOk V) {P : Program} {w : World} (ht : V.sh.toTables = V.re.toTables) (hc : Calm w) {fr : Frame} (hf : FrameOk V fr) {cs : List Frame} :
    Class P w (stepG V.sh true { frame := fr, callers := cs ++ [bot P], status := .running, dying := none } w) := by
  unfold stepG
  dsimp only
  cases hmode : fr.mode with
  | run => exact exec_class h ht hc hf
  | _ => exact unwind_class h ht hc hf
theorem next_none : Extern.next "fmt's door of the lift" = none := by decide +kernel
/-- The bottom frame ends the run. -/
theorem bottom_ends {P : Program} {g : Goroutine} (hb : Bottom P g) (hs : g.status = .running) (hd : g.dying = none) (w : World) : ∃ o w' es, stepG P true g w = .ended o w' es := by
  obtain ⟨hcl, hfr⟩ := hb
  obtain ⟨fr, callers, status, dying, offers⟩ := g
  dsimp only at hcl hs hd hfr
  subst hcl hs hd
  rcases hfr with rfl | ⟨v, rfl⟩ | ⟨ch, rfl⟩
  · exact ⟨_, _, _, rfl⟩
  · unfold stepG
    simp only [bot, Frame.finish]
    unfold stepG.exec
    simp only [next_none]
    exact ⟨_, _, _, rfl⟩
  · unfold stepG
    simp only [bot, Frame.raise]
    unfold unwind
    have hc : Frame.catches P { fn := P.funcs.size, tmps := #[], todo := [.call { target := .collected 0, args := #[] } false "fmt's door of the lift" #[]], defers := [], mode := .panicking ch, kind := .normal } = true := by
      unfold Frame.catches
      simp only [Array.getElem?_eq_none (Nat.le_refl _)]
      decide +kernel
    simp only [hc, ↓reduceIte]
    exact ⟨_, _, _, rfl⟩
end
end Go.Proofs.YtnikgcedifdaeaaGreatDoor.Lift
end

section
/- 'On every tape the run comes there', as an induction: from the runs on all tapes, by one tape in the limit. -/
namespace Go.Proofs.YtnikgcedifdaeaaGreatDoor.Lift
open Go Go.Conc
set_option linter.unusedSimpArgs false
set_option linter.unusedVariables false
def on (w : World) (τ : Tape) (d : Nat) : World := { w with tape := τ, drawn := d }
/-- A goroutine that stands over the bottom frame. -/
def Over (P : Program) (g : Goroutine) : Prop := g.status = .running ∧ g.dying = none ∧ ∃ cs, g.callers = cs ++ [bot P]
inductive Fin (P : Program) (Done : Goroutine → World → Prop) : Goroutine → World → Prop
  | stop {g : Goroutine} {w : World} : Done g w → Fin P Done g w
  | step {g : Goroutine} {w : World} (G : Tape → Goroutine) (W : Tape → World) (E : Tape → Array Event) : (∀ τ, stepG P true g (on w τ 0) = .go (G τ) (W τ) (E τ)) → (∀ τ, Over P (G τ)) → (∀ τ, Fin P Done (G τ) (W τ)) → Fin P Done g w
/-- One goroutine alone. -/
def solo1 (g : Goroutine) (w : World) : Machine := { world := w, gs := #[g], rest := { timers := #[], alone := none, slice := none } }
theorem move_solo1 {P : Program} {g : Goroutine} {w : World} (hg : g.status = .running) : move P (solo1 g w) = .goroutine (solo1 g w) 0 := by
  simp [move, ask, askOn, solo1, runnable_eq, due, ahead, Goroutine.canRun, List.range_succ, choose, pure, Sem.run, Question.forced, hg]
theorem step_solo1 {P : Program} {g g' : Goroutine} {w w' : World} {es : Array Event} (hg : g.status = .running) (h : stepG P true g w = .go g' w' es) : step P (solo1 g w) = .next (solo1 g' w') := by
  rw [step, stepT, move_solo1 hg]
  simp [runT, solo1, Array.swapAt!, h]
theorem step_solo1_ended {P : Program} {g : Goroutine} {w w' : World} {o : Outcome} {es : Array Event} (hg : g.status = .running) (h : stepG P true g w = .ended o w' es) : step P (solo1 g w) = .ended o w' := by
  rw [step, stepT, move_solo1 hg]
  simp [runT, solo1, Array.swapAt!, h]
section
variable {V : Env}
/-- A goroutine of ours over the bottom frame. -/
def Sound (V : Env) (g : Goroutine) : Prop := ∃ fr cs, g = { frame := fr, callers := cs ++ [bot V.sh], status := .running, dying := none } ∧ FrameOk V fr ∧ ∀ c ∈ cs, FrameOk V c
theorem sh_on {w : World} (hV : V.re = V.sh) (hc : Calm w) (τ τ' : Tape) (d d' : Nat) : Sh V (fun _ => False) (on w τ d) (on w τ' d') :=
  ⟨by rw [hV], rfl, fun _ _ => .inl rfl, fun _ h => h.elim, fun _ h => h.elim, rfl, rfl, hc, fun _ => rfl, fun _ _ _ => rfl, fun _ _ hi => hi.elim⟩
/-- The step hangs on as many answers as it draws. -/
theorem step_again (h : StepOk V) (hV : V.re = V.sh) (hst : V.strict = true) {g : Goroutine} (hg : Sound V g) {w : World} (hc : Calm w) {τ τ' : Tape} {d d' : Nat} {g' : Goroutine} {w' : World} {es : Array Event}
    (hgo : stepG V.sh true g (on w τ d) = .go g' w' es) (ho : Over V.sh g') (ht : ∀ j, d + j < w'.drawn → τ' (d' + j) = τ (d + j)) :
    Sound V g' ∧ Calm w' ∧ ∃ es', stepG V.sh true g (on w τ' d') = .go g' (on w' τ' (d' + (w'.drawn - d))) es' := by
  obtain ⟨fr, cs, rfl, hf, hcs⟩ := hg
  have hS := sh_on hV hc τ τ' d d'
  have hl : d ≤ w'.drawn := by
    rcases step_class (P := V.sh) h (by rw [hV]) (w := on w τ d) hc hf (cs := cs) with ⟨o, w0, es0, he⟩ | ⟨g0, w0, es0, he, hl, _⟩
    · rw [hgo] at he; cases he
    · rw [hgo] at he
      cases he
      exact hl.drawn
  obtain ⟨g2, w2', es2, h2, out, mate⟩ := step_alike h (tl1 := [bot V.sh]) (tl2 := [bot V.sh]) (by simp) bot_run bot_run (m := w'.drawn - d) (fun _ _ => id) hS (fun k hk => ht k (by omega)) hf hcs g' w' es hgo ho.1 ho.2.1 ho.2.2 (by show w'.drawn ≤ d + (w'.drawn - d); omega)
  obtain ⟨cs', a, b, rfl, rfl, hcs', hab⟩ := mate
  rcases hab with ⟨rfl, ha⟩ | ⟨f, args, k, hne, _⟩
  · refine ⟨⟨_, _, rfl, ha, hcs'⟩, out.sh.calm, es2, ?_⟩
    rw [hV] at h2
    rw [h2]
    congr 1
    have hdr := out.dr
    have e1 : w2'.tape = τ' := out.t2
    have e2 : w2'.drawn = d' + (w'.drawn - d) := by
      have : w2'.drawn + d = d' + w'.drawn := hdr
      omega
    obtain ⟨heap, tape, drawn, os, output⟩ := w2'
    obtain ⟨heap', tape', drawn', os', output'⟩ := w'
    have e3 := out.sh.exact hst
    have e4 := out.sh.os
    have e5 := out.sh.output
    simp only at e1 e2 e3 e4 e5
    subst e1 e2 e3 e4 e5
    rfl
  · rw [hV] at hne
    exact absurd rfl hne
def Lost (V : Env) (Done : Goroutine → World → Prop) : Type := { c : Goroutine × World // Sound V c.1 ∧ Calm c.2 ∧ ¬ Fin V.sh Done c.1 c.2 }
variable {Done : Goroutine → World → Prop}
theorem lost_tape (s : Lost V Done) : ∃ τ, ∀ g' w' es, stepG V.sh true s.1.1 (on s.1.2 τ 0) = .go g' w' es → Over V.sh g' → ¬ Fin V.sh Done g' w' := by
  apply Classical.byContradiction
  intro hn
  have h1 : ∀ τ, ∃ x : Goroutine × World × Array Event, stepG V.sh true s.1.1 (on s.1.2 τ 0) = .go x.1 x.2.1 x.2.2 ∧ Over V.sh x.1 ∧ Fin V.sh Done x.1 x.2.1 := by
    intro τ
    apply Classical.byContradiction
    intro h2
    exact hn ⟨τ, fun g' w' es h3 h4 h5 => h2 ⟨(g', w', es), h3, h4, h5⟩⟩
  exact s.2.2.2 (.step (fun τ => (Classical.choose (h1 τ)).1) (fun τ => (Classical.choose (h1 τ)).2.1) (fun τ => (Classical.choose (h1 τ)).2.2)
    (fun τ => (Classical.choose_spec (h1 τ)).1) (fun τ => (Classical.choose_spec (h1 τ)).2.1) (fun τ => (Classical.choose_spec (h1 τ)).2.2))
noncomputable def tau (s : Lost V Done) : Tape := Classical.choose (lost_tape s)
theorem tau_spec (s : Lost V Done) : ∀ g' w' es, stepG V.sh true s.1.1 (on s.1.2 (tau s) 0) = .go g' w' es → Over V.sh g' → ¬ Fin V.sh Done g' w' := Classical.choose_spec (lost_tape s)
/-- What comes next on the chosen tape. -/
def Succ (s : Lost V Done) : Prop := ∃ x : Goroutine × World × Array Event, stepG V.sh true s.1.1 (on s.1.2 (tau s) 0) = .go x.1 x.2.1 x.2.2 ∧ Over V.sh x.1
noncomputable def succ (h : StepOk V) (hV : V.re = V.sh) (hst : V.strict = true) (s : Lost V Done) (hs : Succ s) : Lost V Done :=
  ⟨((Classical.choose hs).1, (Classical.choose hs).2.1), by
    obtain ⟨h1, h2⟩ := Classical.choose_spec hs
    obtain ⟨a, b, _⟩ := step_again h hV hst s.2.1 s.2.2.1 h1 h2 (fun _ _ => rfl)
    exact ⟨a, b, tau_spec s _ _ _ h1 h2⟩⟩
open Classical in
noncomputable def chain (h : StepOk V) (hV : V.re = V.sh) (hst : V.strict = true) (s0 : Lost V Done) : Nat → Lost V Done × Nat
  | 0 => (s0, 0)
  | k + 1 => if hs : Succ (chain h hV hst s0 k).1 then (succ h hV hst (chain h hV hst s0 k).1 hs, (chain h hV hst s0 k).2 + (succ h hV hst (chain h hV hst s0 k).1 hs).1.2.drawn) else chain h hV hst s0 k
structure IsChain (F : Nat → Lost V Done × Nat) : Prop where
  zero : (F 0).2 = 0
  go : ∀ k, Succ (F k).1 → (∃ es, stepG V.sh true (F k).1.1.1 (on (F k).1.1.2 (tau (F k).1) 0) = .go (F (k + 1)).1.1.1 (F (k + 1)).1.1.2 es) ∧ Over V.sh (F (k + 1)).1.1.1 ∧ (F (k + 1)).2 = (F k).2 + (F (k + 1)).1.1.2.drawn
  stay : ∀ k, ¬ Succ (F k).1 → F (k + 1) = F k
theorem chain_is (h : StepOk V) (hV : V.re = V.sh) (hst : V.strict = true) (s0 : Lost V Done) : IsChain (chain h hV hst s0) := by
  refine ⟨rfl, fun k hs => ?_, fun k hs => ?_⟩
  · have e : chain h hV hst s0 (k + 1) = (succ h hV hst (chain h hV hst s0 k).1 hs, (chain h hV hst s0 k).2 + (succ h hV hst (chain h hV hst s0 k).1 hs).1.2.drawn) := by
      rw [chain, dif_pos hs]
    rw [e]
    obtain ⟨h1, h2⟩ := Classical.choose_spec hs
    exact ⟨⟨_, h1⟩, h2, rfl⟩
  · rw [chain, dif_neg hs]
section
variable {F : Nat → Lost V Done × Nat}
theorem IsChain.mono (hF : IsChain F) (k : Nat) : (F k).2 ≤ (F (k + 1)).2 := by
  by_cases hs : Succ (F k).1
  · rw [(hF.go k hs).2.2]; exact Nat.le_add_right _ _
  · rw [hF.stay k hs]; exact Nat.le_refl _
theorem IsChain.le (hF : IsChain F) {i k : Nat} (hik : i ≤ k) : (F i).2 ≤ (F k).2 := by
  induction hik with
  | refl => exact Nat.le_refl _
  | step _ ih => exact Nat.le_trans ih (hF.mono _)
theorem IsChain.still (hF : IsChain F) {K : Nat} (hK : ¬ Succ (F K).1) : ∀ {k : Nat}, K ≤ k → F k = F K := by
  intro k hk
  induction hk with
  | refl => rfl
  | step _ ih =>
    rw [hF.stay _ (by rw [ih]; exact hK)]
    exact ih
open Classical in
/-- The tape of the limit. -/
noncomputable def limit (F : Nat → Lost V Done × Nat) : Tape := fun j q =>
  if hk : ∃ k, (F k).2 ≤ j ∧ j < (F (k + 1)).2 then tau (F (Classical.choose hk)).1 (j - (F (Classical.choose hk)).2) q
  else if hK : ∃ K, ¬ Succ (F K).1 then tau (F (Classical.choose hK)).1 (j - (F (Classical.choose hK)).2) q
  else 0
theorem limit_in (hF : IsChain F) {k j : Nat} (hj : (F k).2 + j < (F (k + 1)).2) : limit F ((F k).2 + j) = tau (F k).1 j := by
  funext q
  have hk : ∃ k', (F k').2 ≤ (F k).2 + j ∧ (F k).2 + j < (F (k' + 1)).2 := ⟨k, Nat.le_add_right _ _, hj⟩
  unfold limit
  rw [dif_pos hk]
  have hs := Classical.choose_spec hk
  have e : Classical.choose hk = k := by
    rcases Nat.lt_trichotomy (Classical.choose hk) k with h1 | h1 | h1
    · have := hF.le (show Classical.choose hk + 1 ≤ k from h1)
      omega
    · exact h1
    · have := hF.le (show k + 1 ≤ Classical.choose hk from h1)
      omega
  rw [e, Nat.add_sub_cancel_left]
theorem limit_behind (hF : IsChain F) {K : Nat} (hK : ¬ Succ (F K).1) (j : Nat) : limit F ((F K).2 + j) = tau (F K).1 j := by
  funext q
  unfold limit
  rw [dif_neg, dif_pos ⟨K, hK⟩]
  · have hs := Classical.choose_spec (p := fun K => ¬ Succ (F K).1) ⟨K, hK⟩
    have e : F (Classical.choose (p := fun K => ¬ Succ (F K).1) ⟨K, hK⟩) = F K := by
      rcases Nat.le_total (Classical.choose (p := fun K => ¬ Succ (F K).1) ⟨K, hK⟩) K with h1 | h1
      · exact (hF.still hs h1).symm
      · exact hF.still hK h1
    rw [e, Nat.add_sub_cancel_left]
  · rintro ⟨k, h1, h2⟩
    rcases Nat.lt_or_ge k K with h3 | h3
    · have := hF.le (show k + 1 ≤ K from h3)
      omega
    · rw [hF.still hK (show K ≤ k + 1 by omega)] at h2
      omega
/-- On the limit's tape the run goes along the chain. -/
theorem run_chain (h : StepOk V) (hV : V.re = V.sh) (hst : V.strict = true) (hF : IsChain F) : ∀ k, (∀ i, i < k → Succ (F i).1) →
    runN V.sh k (solo1 (F 0).1.1.1 (on (F 0).1.1.2 (limit F) 0)) = .next (solo1 (F k).1.1.1 (on (F k).1.1.2 (limit F) (F k).2)) := by
  intro k
  induction k with
  | zero => intro _; rw [hF.zero]; rfl
  | succ k ih =>
    intro hk
    have h1 := ih fun i hi => hk i (by omega)
    obtain ⟨⟨es, h2⟩, h3, h4⟩ := hF.go k (hk k (Nat.lt_succ_self k))
    obtain ⟨_, _, es', h5⟩ := step_again h hV hst (F k).1.2.1 (F k).1.2.2.1 h2 h3 (τ' := limit F) (d' := (F k).2) (fun j hj => by
      rw [limit_in hF (by omega), Nat.zero_add])
    rw [Nat.sub_zero, ← h4] at h5
    rw [runN_add, h1]
    simp only [runN]
    obtain ⟨fr, cs, hg, _⟩ := (F k).1.2.1
    rw [step_solo1 (by rw [hg]) h5]
theorem first_fail (p : Nat → Prop) : ∀ n, ¬ (∀ i, i < n → p i) → ∃ K, K < n ∧ ¬ p K ∧ ∀ i, i < K → p i := by
  intro n
  induction n with
  | zero => intro h; exact absurd (fun i hi => absurd hi (Nat.not_lt_zero i)) h
  | succ n ih =>
    intro h
    by_cases hn : ∀ i, i < n → p i
    · refine ⟨n, Nat.lt_succ_self n, fun hp => h fun i hi => ?_, hn⟩
      rcases Nat.lt_or_ge i n with h1 | h1
      · exact hn i h1
      · obtain rfl : i = n := by omega
        exact hp
    · obtain ⟨K, h1, h2, h3⟩ := ih hn
      exact ⟨K, by omega, h2, h3⟩
/-- ON EVERY TAPE the run comes there: so it does in the induction's sense. -/
theorem fin_of_runs (h : StepOk V) (hV : V.re = V.sh) (hst : V.strict = true) {g0 : Goroutine} {w0 : World} (hg : Sound V g0) (hc : Calm w0)
    (blind : ∀ g w τ d, Done g w → Done g (on w τ d)) (over : ∀ g w, Done g w → Over V.sh g)
    (runs : ∀ τ, ∃ n g' w', runN V.sh n (solo1 g0 (on w0 τ 0)) = .next (solo1 g' w') ∧ Done g' w') : Fin V.sh Done g0 w0 := by
  apply Classical.byContradiction
  intro hn
  have hF := chain_is h hV hst (Done := Done) ⟨(g0, w0), hg, hc, hn⟩
  generalize hFe : chain h hV hst (Done := Done) ⟨(g0, w0), hg, hc, hn⟩ = F at hF
  have h0 : (F 0).1.1 = (g0, w0) := by rw [← hFe]; rfl
  obtain ⟨n, g', w', hr, hd⟩ := runs (limit F)
  rw [show g0 = (F 0).1.1.1 by rw [h0], show w0 = (F 0).1.1.2 by rw [h0]] at hr
  have undone : ∀ k, ¬ Done (F k).1.1.1 (F k).1.1.2 := fun k hk => (F k).1.2.2.2 (.stop hk)
  by_cases hall : ∀ i, i < n → Succ (F i).1
  · have h1 := run_chain h hV hst hF n hall
    rw [h1] at hr
    simp only [Stepped.next.injEq, solo1, Machine.mk.injEq] at hr
    obtain ⟨e1, e2, _⟩ := hr
    have e2' : (F n).1.1.1 = g' := by simpa using e2
    rw [← e1, ← e2'] at hd
    have := blind _ _ (F n).1.1.2.tape (F n).1.1.2.drawn hd
    exact undone n this
  · obtain ⟨K, hK, hs, hb⟩ := first_fail _ n hall
    have h1 := run_chain h hV hst hF K hb
    obtain ⟨r, rfl⟩ : ∃ r, n = K + (r + 1) := ⟨n - K - 1, by omega⟩
    rw [runN_add, h1] at hr
    simp only [runN] at hr
    obtain ⟨fr, cs, hge, hfr, hcs⟩ := (F K).1.2.1
    have hrun : (F K).1.1.1.status = .running := by rw [hge]
    have hcl := step_class (P := V.sh) h (by rw [hV]) (w := on (F K).1.1.2 (limit F) (F K).2) (F K).1.2.2.1 hfr (cs := cs)
    rw [← hge] at hcl
    rcases hcl with ⟨o, w1, es, he⟩ | ⟨g1, w1, es, he, hl, hst1, hdy1, hwhere⟩
    · rw [step_solo1_ended hrun he] at hr
      cases hr
    · rw [step_solo1 hrun he] at hr
      rcases hwhere with hcs1 | hbot
      · have hl1 : (F K).2 ≤ w1.drawn := hl.drawn
        obtain ⟨_, _, es', h5⟩ := step_again h hV hst (F K).1.2.1 (F K).1.2.2.1 he ⟨hst1, hdy1, hcs1⟩ (τ' := tau (F K).1) (d' := 0) (fun j hj => by
          rw [limit_behind hF hs, Nat.zero_add])
        exact hs ⟨(g1, _, es'), h5, hst1, hdy1, hcs1⟩
      · cases r with
        | zero =>
          simp only [runN, Stepped.next.injEq, solo1, Machine.mk.injEq] at hr
          obtain ⟨e1, e2, _⟩ := hr
          have e2' : g1 = g' := by simpa using e2
          obtain ⟨_, _, cs', hcs'⟩ := over _ _ hd
          rw [← e2', hbot.1] at hcs'
          simp at hcs'
        | succ r =>
          obtain ⟨o, w2, es2, he2⟩ := bottom_ends hbot hst1 hdy1 w1
          simp only [runN] at hr
          rw [step_solo1_ended hst1 he2] at hr
          cases hr
end
end
end Go.Proofs.YtnikgcedifdaeaaGreatDoor.Lift
end

section
/- The shadow's lone run carried to the true company run, beside leavers. -/
namespace Go.Proofs.YtnikgcedifdaeaaGreatDoor.Lift
open Go Go.Conc
open Go.ConcN (sumTo upd sumTo_upd upd_ne upd_same)
set_option linter.unusedSimpArgs false
set_option linter.unusedVariables false
section
variable {V : Env} {Done : Goroutine → World → Prop}
/-- Shadow states one behind the other, none of them done but the last. -/
inductive Desc (P : Program) (Done : Goroutine → World → Prop) : Goroutine → World → Goroutine → World → Prop
  | refl {g : Goroutine} {w : World} : Desc P Done g w g w
  | step {g g1 g' : Goroutine} {w w1 w' : World} {τ : Tape} {es : Array Event} : ¬ Done g w → stepG P true g (on w τ 0) = .go g1 w1 es → Desc P Done g1 w1 g' w' → Desc P Done g w g' w'
/-- The true company beside the shadow: goroutine 0 stands in the shadow's frame, all others only leave. -/
structure Along (V : Env) (g1 : Goroutine) (w1 : World) (gs : Array Goroutine) (w2 : World) (t : Trace) (q : Nat → Nat) : Prop where
  ex : ∃ Bad fr cs, ((∀ i, V.ok i → ¬ Bad i) ∧ ∀ i, V.bad0 i → Bad i) ∧ Sh V Bad w1 w2 ∧ Past (BadLoc V.n0 Bad) w2.heap.size t ∧ FrameOk V fr ∧ (∀ c ∈ cs, FrameOk V c) ∧
    g1 = { frame := fr, callers := cs ++ [bot V.sh], status := .running, dying := none } ∧ gs[0]? = some { frame := fr, callers := cs, status := .running, dying := none }
  leavers : Leavers V.re t gs q
  big : V.n0 ≤ w2.heap.size
/-- It comes there. -/
def Comes1 (V : Env) (Done : Goroutine → World → Prop) (gs : Array Goroutine) (w2 : World) (sl : Option (Nat × Nat)) (t : Trace) : Prop :=
  ∃ N gs' w2' sl' t' q' g1' w1', runNT V.re N (crowd gs w2 sl) t = (.next (crowd gs' w2' sl'), t') ∧ Done g1' w1' ∧ Along V g1' w1' gs' w2' t' q'
theorem runNT_trans {P : Program} : ∀ (a b : Nat) (m m' : Machine) (t t' : Trace), runNT P a m t = (.next m', t') → runNT P (a + b) m t = runNT P b m' t' := by
  intro a
  induction a with
  | zero =>
    intro b m m' t t' h
    simp only [runNT, Prod.mk.injEq, Stepped.next.injEq] at h
    obtain ⟨rfl, rfl⟩ := h
    rw [Nat.zero_add]
  | succ a ih =>
    intro b m m' t t' h
    rw [show a + 1 + b = (a + b) + 1 by omega]
    simp only [runNT] at h ⊢
    split at h
    · rename_i heq
      exact ih b _ _ _ _ h
    · rename_i hno _
      cases h
      exact absurd rfl (hno _)
theorem Comes1.later {gs gs' : Array Goroutine} {w w' : World} {sl sl' : Option (Nat × Nat)} {t t' : Trace} {N : Nat} (hr : runNT V.re N (crowd gs w sl) t = (.next (crowd gs' w' sl'), t')) (h : Comes1 V Done gs' w' sl' t') : Comes1 V Done gs w sl t := by
  obtain ⟨M, gs2, w2, sl2, t2, q2, g1, w1, h1, h2, h3⟩ := h
  exact ⟨N + M, gs2, w2, sl2, t2, q2, g1, w1, (runNT_trans N M _ _ _ _ hr).trans h1, h2, h3⟩
/-- The call of a function whose bodies differ. -/
def Phase (V : Env) (Done : Goroutine → World → Prop) : Prop :=
  ∀ (f : FuncId) (args : Array Value) (k : CallKind) (cs : List Frame) (w1 w2 : World) (gs : Array Goroutine) (sl : Option (Nat × Nat)) (t : Trace) (q : Nat → Nat) (Bad : Nat → Prop),
    V.sh.funcs[f]? ≠ V.re.funcs[f]? → (k = .normal ∨ k = .deferred) → (∀ c ∈ cs, FrameOk V c) → ((∀ i, V.ok i → ¬ Bad i) ∧ ∀ i, V.bad0 i → Bad i) → Sh V Bad w1 w2 → Past (BadLoc V.n0 Bad) w2.heap.size t → Leavers V.re t gs q → V.n0 ≤ w2.heap.size →
    gs[0]? = some { frame := Frame.enter V.re f args k, callers := cs, status := .running, dying := none } →
    Fin V.sh Done { frame := Frame.enter V.sh f args k, callers := cs ++ [bot V.sh], status := .running, dying := none } w1 →
    ∃ N gs' w2' sl' t' q' g1' w1', runNT V.re N (crowd gs w2 sl) t = (.next (crowd gs' w2' sl'), t') ∧
      Desc V.sh Done { frame := Frame.enter V.sh f args k, callers := cs ++ [bot V.sh], status := .running, dying := none } w1 g1' w1' ∧ Along V g1' w1' gs' w2' t' q'
theorem carry (h : StepOk V) (hP : Phase V Done) : ∀ (g : Goroutine) (w : World), Fin V.sh Done g w → ∀ g1 w1, Desc V.sh Done g w g1 w1 → Fin V.sh Done g1 w1 ∧ ∀ gs w2 sl t q, Along V g1 w1 gs w2 t q → Comes1 V Done gs w2 sl t := by
  intro g w hF
  induction hF with
  | stop hd =>
    intro g1 w1 hD
    cases hD with
    | refl => exact ⟨.stop hd, fun gs w2 sl t q ha => ⟨0, gs, w2, sl, t, q, _, _, rfl, hd, ha⟩⟩
    | step hn _ _ => exact absurd hd hn
  | @step g w G W E hgo hover hfin ih =>
    intro g1 w1 hD
    cases hD with
    | step hn hs hD =>
      rename_i τ es
      rw [hgo] at hs
      cases hs
      exact ih τ _ _ hD
    | refl =>
      refine ⟨.step G W E hgo hover hfin, ?_⟩
      have one : ∀ gs w2 sl t q, Along V g w gs w2 t q → Comes1 V Done gs w2 sl t ∨ ∃ gs' w2' sl' t' q', runNT V.re 1 (crowd gs w2 sl) t = (.next (crowd gs' w2' sl'), t') ∧ sumTo gs'.size q' < sumTo gs.size q ∧ Along V g w gs' w2' t' q' := by
        intro gs w2 sl t q ha
        by_cases hd : Done g w
        · exact .inl ⟨0, gs, w2, sl, t, q, _, _, rfl, hd, ha⟩
        obtain ⟨Bad, fr, cs, hB, hS, hPast, hf, hcs, hge, h0⟩ := ha.ex
        have hL := ha.leavers
        have haw : ∀ g ∈ gs, awake g := by
          intro g hg
          obtain ⟨i, hi, rfl⟩ := Array.mem_iff_getElem.1 hg
          rcases Nat.eq_zero_or_pos i with rfl | hpos
          · have : gs[0] = { frame := fr, callers := cs, status := .running, dying := none } := by simpa [Array.getElem?_eq_getElem hi] using h0
            rw [this]; exact awake_of (.inl rfl)
          · exact awake_of ((hL.old i _ hpos (Array.getElem?_eq_getElem hi)).status.elim .inl fun x => .inr (.inr x))
        obtain ⟨i, g', d, sl', hi, hg', hst⟩ := crowd_pick (P := V.re) (w := w2) (sl := sl) haw ⟨0, _, h0, rfl⟩
        rcases Nat.eq_zero_or_pos i with rfl | hpos
        · left
          obtain rfl : g' = { frame := fr, callers := cs, status := .running, dying := none } := by rw [h0] at hi; exact (Option.some.inj hi).symm
          let τ : Tape := fun j q => w2.tape ((w2.at d).drawn + j) q
          have hS' : Sh V Bad (on w τ 0) (w2.at d) := ⟨hS.tab, hS.size, hS.same, hS.poison, hS.real, hS.os, hS.output, hS.calm, hS.exact, hS.low, hS.old⟩
          have hgo' := hgo τ
          rw [hge] at hgo'
          have al := step_alike h (tl1 := [bot V.sh]) (tl2 := []) (by simp) bot_run (by simp) (m := (W τ).drawn) hB.1 hS' (fun k hk => by
            funext q
            show w2.tape ((w2.at d).drawn + k) q = w2.tape ((w2.at d).drawn + (0 + k)) q
            rw [Nat.zero_add]) hf hcs
          obtain ⟨g2, w2', es2, h2, out, mate⟩ := al _ _ _ hgo' (hover τ).1 (hover τ).2.1 (hover τ).2.2 (by show (W τ).drawn ≤ 0 + (W τ).drawn; omega)
          rw [List.append_nil] at h2
          have hrunT := runT_crowd_go (P := V.re) (sl := sl') (i := 0) hi (show stepG V.re (0 == 0) _ (w2.at d) = _ from h2)
          have hgrow : w2.heap.size ≤ w2'.heap.size := by
            rcases step_class (P := V.sh) h (by rw [hS.tab]) (w := on w τ 0) hS'.calm hf (cs := cs) with ⟨o, w0, es0, he⟩ | ⟨g0, w0, es0, he, hl, _⟩
            · rw [hgo'] at he; cases he
            · rw [hgo'] at he
              cases he
              have := hl.size
              rw [out.sh.size, hS.size]
              exact this
          have hsz : ((gs.map (woken V.re { frame := fr, callers := cs, status := .running, dying := none } g2 w2')).setIfInBounds 0 g2).size = gs.size := by simp
          have hlt : 0 < gs.size := (Array.getElem?_eq_some_iff.1 h0).1
          have hL' : Leavers V.re (t ++ MemOp.ofEvents 0 fr.fn fr.place es2) ((gs.map (woken V.re { frame := fr, callers := cs, status := .running, dying := none } g2 w2')).setIfInBounds 0 g2) q :=
            ⟨fun j x hj hx => by
              have hne : 0 ≠ j := by omega
              rw [Array.getElem?_setIfInBounds_ne hne, Array.getElem?_map] at hx
              obtain ⟨y, hy, rfl⟩ := Option.map_eq_some_iff.1 hx
              have hq := hL.old j y hj hy
              rw [woken_quitsD hq, Deaf_other t (by omega) _ (fun op hop => by obtain ⟨e, _, rfl⟩ := Go.Conc.mem_ofEvents hop; rfl)]
              exact hq, fun j hj => by
              rw [Deaf_other t (g' := 0) (by simp at hj; omega) _ (fun op hop => by obtain ⟨e, _, rfl⟩ := Go.Conc.mem_ofEvents hop; rfl)]
              exact hL.above j (by simpa using hj)⟩
          have hPast' : Past (BadLoc V.n0 Bad) w2'.heap.size (t ++ MemOp.ofEvents 0 fr.fn fr.place es2) := (hPast.mono hgrow).own out.evs
          have hone : runNT V.re 1 (crowd gs w2 sl) t = (.next (crowd ((gs.map (woken V.re { frame := fr, callers := cs, status := .running, dying := none } g2 w2')).setIfInBounds 0 g2) w2' sl'), t ++ MemOp.ofEvents 0 fr.fn fr.place es2) := by
            simp only [runNT, hst, hrunT]
          obtain ⟨cs', a, b, hga, hgb, hcs', hab⟩ := mate
          rw [List.append_nil] at hgb
          have h0' : ((gs.map (woken V.re { frame := fr, callers := cs, status := .running, dying := none } g2 w2')).setIfInBounds 0 g2)[0]? = some g2 := by simp [hlt]
          rcases hab with ⟨rfl, hfa⟩ | ⟨f, args, k, hne, hk, rfl, rfl⟩
          · refine Comes1.later hone ((ih τ (G τ) (W τ) .refl).2 _ _ _ _ q ⟨⟨Bad, _, cs', hB, out.sh, hPast', hfa, hcs', hga, ?_⟩, hL', Nat.le_trans ha.big hgrow⟩)
            rw [h0', hgb]
          · have hfin' := hfin τ
            rw [hga] at hfin'
            obtain ⟨N, gs3, w3, sl3, t3, q3, g3, v3, r1, r2, r3⟩ := hP f args k cs' (W τ) w2' _ sl' _ q Bad hne hk hcs' hB out.sh hPast' hL' (Nat.le_trans ha.big hgrow) (by rw [h0', hgb]) hfin'
            rw [← hga] at r2
            exact Comes1.later hone (Comes1.later r1 ((ih τ _ _ r2).2 _ _ _ _ _ r3))
        · right
          have hq := hL.old i g' hpos hi
          have hi0 : (i == 0) = false := by simp; omega
          have hlt : i < gs.size := (Array.getElem?_eq_some_iff.1 hi).1
          cases hqi : q i with
          | zero => rw [hqi] at hq; rw [hq.1] at hg'; cases hg'
          | succ k =>
            rw [hqi] at hq
            rcases hq with ⟨hfi, _⟩ | ⟨_, g'', es, hm, hstp, hq'⟩
            · rw [hfi] at hg'; cases hg'
            have hrunT := runT_crowd_go (P := V.re) (sl := sl') (i := i) hi (by rw [hi0]; exact hstp (w2.at d))
            have hsz : ((gs.map (woken V.re g' g'' (w2.at d))).setIfInBounds i g'').size = gs.size := by simp
            have hsum : sumTo gs.size (upd q i k) + (k + 1) = sumTo gs.size q + k := by
              have := sumTo_upd q k id hlt
              simpa [hqi] using this
            refine ⟨(gs.map (woken V.re g' g'' (w2.at d))).setIfInBounds i g'', w2.at d, sl', t ++ MemOp.ofEvents i g'.frame.fn g'.frame.place es, upd q i k, by simp only [runNT, hst, hrunT], by rw [hsz]; omega, ⟨Bad, fr, cs, hB, ⟨hS.tab, hS.size, hS.same, hS.poison, hS.real, hS.os, hS.output, hS.calm, hS.exact, hS.low, hS.old⟩, hPast.mute (by omega) hm, hf, hcs, hge, ?_⟩, ?_, ha.big⟩
            · have hne : i ≠ 0 := by omega
              rw [Array.getElem?_setIfInBounds_ne hne, Array.getElem?_map, h0]
              simp [woken_run]
            · refine ⟨fun j x hj hx => ?_, fun j hj => ?_⟩
              · by_cases hji : i = j
                · subst hji
                  rw [Array.getElem?_setIfInBounds_self_of_lt (by simpa using hlt)] at hx
                  obtain rfl := Option.some.inj hx
                  rw [upd_same, Deaf_own]
                  exact hq'
                · rw [Array.getElem?_setIfInBounds_ne hji, Array.getElem?_map] at hx
                  obtain ⟨y, hy, rfl⟩ := Option.map_eq_some_iff.1 hx
                  have hqj := hL.old j y hj hy
                  rw [woken_quitsD hqj, upd_ne q k (Ne.symm hji), Deaf_other t hji _ (fun op hop => by obtain ⟨e, _, rfl⟩ := Go.Conc.mem_ofEvents hop; rfl)]
                  exact hqj
              · rw [Deaf_other t (g' := i) (by simp at hj; omega) _ (fun op hop => by obtain ⟨e, _, rfl⟩ := Go.Conc.mem_ofEvents hop; rfl)]
                exact hL.above j (by simpa using hj)
      have main : ∀ (M : Nat) gs w2 sl t q, sumTo gs.size q ≤ M → Along V g w gs w2 t q → Comes1 V Done gs w2 sl t := by
        intro M
        induction M with
        | zero =>
          intro gs w2 sl t q hM ha
          rcases one gs w2 sl t q ha with h1 | ⟨gs', w2', sl', t', q', h1, h2, h3⟩
          · exact h1
          · omega
        | succ M ihM =>
          intro gs w2 sl t q hM ha
          rcases one gs w2 sl t q ha with h1 | ⟨gs', w2', sl', t', q', h1, h2, h3⟩
          · exact h1
          · exact Comes1.later h1 (ihM gs' w2' sl' t' q' (by omega) h3)
      exact fun gs w2 sl t q ha => main _ gs w2 sl t q (Nat.le_refl _) ha
end
end Go.Proofs.YtnikgcedifdaeaaGreatDoor.Lift
end

section
/- The end: where the shadow's run is done, the true run ends well. -/
namespace Go.Proofs.YtnikgcedifdaeaaGreatDoor.Lift
open Go Go.Conc
open Go.ConcN (sumTo)
set_option linter.unusedSimpArgs false
set_option linter.unusedVariables false
/-- Where it answers, the world is as it was; and it answers so on whatever tape. -/
def Still {α : Type} (s : Sem α) : Prop := ∀ P w es r w' es', s.runT P w es = (.ok r w', es') → w' = w ∧ ∀ τ d, s.runT P (on w τ d) es = (.ok r (on w τ d), es')
theorem Still.pure {α : Type} (a : α) : Still (Pure.pure a : Sem α) := by
  intro P w es r w' es' h
  simp only [Pure.pure, Sem.runT, Prod.mk.injEq, Result.ok.injEq] at h
  obtain ⟨⟨rfl, rfl⟩, rfl⟩ := h
  exact ⟨rfl, fun _ _ => rfl⟩
theorem Still.halt {α : Type} (e : Halt) : Still (.halt e : Sem α) := by
  intro P w es r w' es' h
  simp only [Sem.runT, Prod.mk.injEq] at h
  cases h.1
theorem Still.bind {α β : Type} {x : Sem α} {f : α → Sem β} (hx : Still x) (hf : ∀ a, Still (f a)) : Still (x >>= f) := by
  intro P w es r w' es' h
  have h' : (Sem.bind x f).runT P w es = (.ok r w', es') := h
  rw [Sem.runT_bind' P x f w es] at h'
  rcases hr : x.runT P w es with ⟨q, es1⟩
  rw [hr] at h'
  cases q with
  | ok a v =>
    obtain ⟨rfl, b1⟩ := hx P w es a v es1 hr
    obtain ⟨rfl, b2⟩ := hf a P v es1 r w' es' h'
    refine ⟨rfl, fun τ d => ?_⟩
    show (Sem.bind x f).runT P (on w' τ d) es = _
    rw [Sem.runT_bind' P x f _ es, b1 τ d]
    exact b2 τ d
  | halt e v => simp at h'
theorem Still.program {α : Type} {f : Program → Sem α} (hf : ∀ p, Still (f p)) : Still (Go.program >>= f) := by
  refine Still.bind (fun P w es r w' es' h => ?_) hf
  simp only [Go.program, Sem.runT, Prod.mk.injEq, Result.ok.injEq] at h
  obtain ⟨⟨rfl, rfl⟩, rfl⟩ := h
  exact ⟨rfl, fun _ _ => rfl⟩
theorem Still.load (a : Addr) (md : Mode) : Still (Go.load a md) := by
  intro P w es r w' es' h
  simp only [Go.load, Sem.runT] at h
  split at h
  · rename_i v hv
    simp only [Sem.runT, Prod.mk.injEq, Result.ok.injEq] at h
    obtain ⟨⟨rfl, rfl⟩, rfl⟩ := h
    refine ⟨rfl, fun τ d => ?_⟩
    have hv' : (on w τ d).cell? a = some v := hv
    simp only [Go.load, Sem.runT, hv']
  · rename_i hv
    split at h
    · rename_i v l hl
      simp only [Sem.runT, Prod.mk.injEq, Result.ok.injEq] at h
      obtain ⟨⟨rfl, rfl⟩, rfl⟩ := h
      refine ⟨rfl, fun τ d => ?_⟩
      have hv' : (on w τ d).cell? a = none := hv
      have hl' : (on w τ d).farLoad P a (md == Mode.atomic) = .ok (v, l) := hl
      simp only [Go.load, Sem.runT, hv', hl']
    · simp at h
theorem Still.typeInfo (t : TypeId) : Still (Go.typeInfo t) := by
  unfold Go.typeInfo
  refine Still.program fun p => ?_
  split
  · exact Still.pure _
  · exact Still.halt _
theorem Still.underlying (t : TypeId) : Still (Go.underlying t) := by
  unfold Go.underlying
  refine Still.program fun p => ?_
  split
  · exact Still.pure _
  · exact Still.halt _
theorem Still.isAgg (t : TypeId) : Still (Go.isAgg t) := by
  unfold Go.isAgg
  refine Still.bind (Still.underlying _) fun d => ?_
  split <;> exact Still.pure _
theorem Still.loadCellsFrom (a : Addr) : ∀ (n i : Nat) (acc : Array Value), Still (Go.loadCellsFrom a i n acc) := by
  intro n
  induction n with
  | zero => intro i acc; exact Still.pure _
  | succ n ih => intro i acc; exact Still.bind (Still.load _ _) fun v => ih _ _
theorem Still.loadVar (t : TypeId) (a : Addr) : Still (Go.loadVar t a) := by
  unfold Go.loadVar
  refine Still.bind (Still.isAgg _) fun b => ?_
  split
  · exact Still.bind (Still.bind (Still.typeInfo _) fun _ => Still.pure _) fun _ => Still.bind (Still.loadCellsFrom _ _ _ _) fun _ => Still.pure _
  · exact Still.load _ _
theorem Still.mapList {α β : Type} (f : α → Sem β) (hf : ∀ a, Still (f a)) : ∀ (l : List α), Still (l.mapM f)
  | [] => Still.pure _
  | x :: l => by
    rw [List.mapM_cons]
    exact Still.bind (hf x) fun _ => Still.bind (Still.mapList f hf l) fun _ => Still.pure _
theorem still_panic {α : Type} (e : RuntimeError) : Still (Go.runtimePanic e : Sem α) := by
  have g0 : ∀ v, Still (Go.goPanic v : Sem α) := fun v => Still.halt _
  have never : ∀ {β : Type} (x : Sem β) (f : β → Sem α), (∀ b P w es r w' es', (f b).runT P w es ≠ (.ok r w', es')) → ∀ P w es r w' es', (x >>= f).runT P w es ≠ (.ok r w', es') := by
    intro β x f hf P w es r w' es' h
    have h' : (Sem.bind x f).runT P w es = (.ok r w', es') := h
    rw [Sem.runT_bind' P x f w es] at h'
    rcases hr : x.runT P w es with ⟨q, es1⟩
    rw [hr] at h'
    cases q with
    | ok a v => exact hf a P v es1 r w' es' h'
    | halt e v => simp at h'
  have g1 : ∀ v P w es r w' es', (Go.goPanic v : Sem α).runT P w es ≠ (.ok r w', es') := by
    intro v P w es r w' es' h
    simp [Go.goPanic, Sem.runT, -Sem.runT_eq] at h
  intro P w es r w' es' h
  exfalso
  revert h
  unfold Go.runtimePanic
  refine never _ _ (fun p => ?_) P w es r w' es'
  cases e <;> first
    | exact g1 _
    | exact never _ _ fun _ => never _ _ fun _ => g1 _
theorem Still.asAddr (v : Value) : Still (Go.asAddr v) := by
  unfold Go.asAddr
  split
  · exact Still.pure _
  · exact still_panic _
  · exact Still.halt _
theorem Still.results (fn : Func) (tmps : Array Value) : Still (Go.results fn tmps) := by
  unfold Go.results
  refine Still.bind ?_ fun _ => Still.pure _
  rw [Array.mapM_eq_mapM_toList]
  refine Still.bind (f := fun a => Pure.pure (List.toArray a)) (Still.mapList _ (fun x => ?_) _) fun _ => Still.pure _
  split
  · exact Still.pure _
  · exact Still.bind (Still.asAddr _) fun _ => Still.loadVar _ _
section
variable {V : Env}
/-- The shadow's run is done: it stands at its return, with a result as promised. -/
def DoneAt (V : Env) (f : FuncId) (Q : Value → World → Prop) (g : Goroutine) (w : World) : Prop :=
  ∃ fr v, g = { frame := fr, callers := [bot V.sh], status := .running, dying := none } ∧ fr.leaving V.sh w (.returned v) ∧ fr.fn = f ∧ Q v w
/-- The run of the true company ends well. -/
def Ended (V : Env) (Post : Value → World → Prop) (gs : Array Goroutine) (w : World) (sl : Option (Nat × Nat)) (t : Trace) : Prop :=
  ∃ N last o w' t', runNT V.re (N + 1) (crowd gs w sl) t = (.ended o w', t') ∧ runN V.re N (crowd gs w sl) = .next last ∧ step V.re last = .ended o w' ∧ Good V.re Post last o w' t'
theorem ends (h : StepOk V) {f : FuncId} (noInit : V.re.inits.idxOf? f = none) {Q Post : Value → World → Prop}
    (hq : ∀ v w1 w2 Bad, (∀ i, V.bad0 i → Bad i) → Q v w1 → Sh V Bad w1 w2 → Post v w2) {gs : Array Goroutine} {w2 : World} {sl : Option (Nat × Nat)} {t : Trace} (hc : Comes1 V (DoneAt V f Q) gs w2 sl t) : Ended V Post gs w2 sl t := by
  obtain ⟨N, gs', w2', sl', t', q', g1, w1, hr, ⟨fr, v, rfl, ⟨hmode, hdef, hkind, fn, hfn, hres⟩, rfl, hQ⟩, hal⟩ := hc
  obtain ⟨Bad, fr', cs, hB, hS, hPast, hf, hcs, hge, h0⟩ := hal.ex
  simp only [Goroutine.mk.injEq, and_true] at hge
  obtain ⟨rfl, hcl⟩ := hge
  have hcs0 : cs = [] := by
    cases cs with
    | nil => rfl
    | cons c r =>
      have := congrArg List.length hcl
      simp at this
  subst hcs0
  have hend : ∀ w₁, AtRel w2' w₁ → AtEnd V.re (BadLoc V.n0 Bad) w2'.heap.size Post { frame := fr, callers := [], status := .running, dying := none } w₁ := by
    rintro w₁ ⟨d, rfl⟩
    have hS' : Sh V Bad w1 (w2'.at d) := ⟨hS.tab, hS.size, hS.same, hS.poison, hS.real, hS.os, hS.output, hS.calm, hS.exact, hS.low, hS.old⟩
    have lead := Lead.results h.funcs.tab fn fr.tmps Bad w1 (w2'.at d) 0 #[] hB.1 hS' (fun k hk => absurd hk (Nat.not_lt_zero k))
    rw [hres] at lead
    obtain ⟨v2, new, hx2, ho⟩ := lead (by omega)
    obtain rfl := (Still.results fn fr.tmps _ _ _ _ _ _ hx2).1
    have hfn2 : V.re.funcs[fr.fn]? = some fn := hf.fn ▸ hfn
    refine ⟨rfl, v, seen V.re fr.fn (#[] ++ new) ++ #[], ?_, ?_, hq v w1 _ Bad hB.2 hQ hS'⟩
    · unfold stepG
      simp only [hmode]
      unfold unwind
      simp only [hdef, hmode, hfn2, hx2]
      unfold doReturn
      simp only [hkind, noInit, GStep.after, Bool.not_true, Bool.false_eq_true, ↓reduceIte]
    · intro e he
      have he' := mem_seen V.re fr.fn (#[] ++ new) e (by rw [Array.append_empty] at he; exact he)
      rw [Array.empty_append] at he'
      exact ho.evs e he'
  obtain ⟨M, last, o, w', t'', e1, e2, e3, e4⟩ := beside_ends (P := V.re) (D := fun _ _ _ => False) (fun _ _ _ hd => hd.elim) (n := 0) h0 hal.leavers hPast hend (sl := sl')
  refine ⟨N + M, last, o, w', t'', ?_, ?_, e3, e4⟩
  · rw [Nat.add_assoc, runNT_trans N (M + 1) _ _ _ _ hr]
    exact e1
  · have hr' : runN V.re N (crowd gs w2 sl) = .next (crowd gs' w2' sl') := by rw [← runNT_fst _ _ _ t, hr]
    rw [runN_add, hr']
    exact e2
/-- ████ THE LIFT, but for the phase: from the shadow's contract to the true company's run. ████ -/
theorem lift (h : StepOk V) {V1 : Env} (h1 : StepOk V1) (e1 : V1.sh = V.sh) (e2 : V1.re = V.sh) (e3 : V1.strict = true) {f : FuncId} {args : Array Value} {W1 W2 : World} {R : Ending → World → Prop} {Q Post : Value → World → Prop}
    (hfn : V.sh.funcs[f]? = V.re.funcs[f]?) (hhas : (V.sh.funcs[f]?).isSome = true) (noInit : V.re.inits.idxOf? f = none) (hP : Phase V (DoneAt V f Q))
    {Bad : Nat → Prop} (hB : (∀ i, V.ok i → ¬ Bad i) ∧ ∀ i, V.bad0 i → Bad i) (hS : Sh V Bad W1 W2) (hbad : ∀ i, Bad i → i < V.n0) (hn0 : V.n0 ≤ W2.heap.size)
    (calls : ∀ τ, Calls V.sh f args (on W1 τ 0) fun e w => match e with | .returned v => Q v w | _ => False)
    (hQ : ∀ v w τ d, Q v w → Q v (on w τ d)) (hq : ∀ v w1 w2 Bad, (∀ i, V.bad0 i → Bad i) → Q v w1 → Sh V Bad w1 w2 → Post v w2) :
    Ended V Post #[{ frame := Frame.enter V.re f args .normal, callers := [], status := .running, dying := none }] W2 none #[] := by
  refine ends h noInit hq ?_
  have hfr : FrameOk V (Frame.enter V.re f args .normal) := FrameOk.enter h (.inl rfl) hfn hhas
  have hfin : Fin V.sh (DoneAt V f Q) { frame := Frame.enter V.sh f args .normal, callers := [bot V.sh], status := .running, dying := none } W1 := by
    rw [← e1]
    refine fin_of_runs h1 (e2.trans e1.symm) e3 ⟨_, [], by rw [e1]; rfl, ?_, by simp⟩ hS.calm ?_ ?_ ?_
    · rw [← e1, ← show V1.re = V1.sh from e2.trans e1.symm]
      exact FrameOk.enter h1 (.inl rfl) (by rw [e1, e2]) (by rw [e1]; exact hhas)
    · rintro g w τ d ⟨fr, v, rfl, ⟨a1, a2, a3, fn, a4, a5⟩, a6, a7⟩
      refine ⟨fr, v, rfl, ⟨a1, a2, a3, fn, a4, ?_⟩, a6, hQ _ _ _ _ a7⟩
      have hx : (results fn fr.tmps).runT V.sh w #[] = (.ok v w, ((results fn fr.tmps).runT V.sh w #[]).2) := by
        rw [← a5, ← Sem.runT_fst V.sh (results fn fr.tmps) w #[]]
      have := (Still.results fn fr.tmps _ _ _ _ _ _ hx).2 τ d
      rw [← Sem.runT_fst V.sh (results fn fr.tmps) _ #[], this]
    · rintro g w ⟨fr, v, rfl, _⟩
      exact ⟨rfl, rfl, [], by rw [e1]; rfl⟩
    · intro τ
      obtain ⟨e, w', fr, hR, hcm, hff, hl⟩ := calls τ [bot V.sh]
      cases e with
      | returned v =>
        obtain ⟨n, hn⟩ := hcm
        rw [e1]
        exact ⟨n, _, w', hn, fr, v, rfl, hl, hff, hR⟩
      | _ => exact hR.elim
  refine ((carry h hP _ _ hfin _ _ .refl).2 _ _ _ _ (fun _ => 0) ⟨⟨Bad, _, [], hB, hS, ?_, hfr, by simp, by rw [enter_same hfn]; rfl, rfl⟩, leavers_one _ _, hn0⟩)
  exact ⟨fun said => by rintro ⟨i, j, _, ⟨a, b, ha, _⟩, _⟩; simp [Trace.act?] at ha, fun i a ha => by simp [touchAt, Trace.act?] at ha, fun i g hg => by simp [Trace.g?] at hg, rfl, by simp⟩
end
end Go.Proofs.YtnikgcedifdaeaaGreatDoor.Lift
end

section
/- A function that the shadow refuses is never called. -/
namespace Go.Proofs.YtnikgcedifdaeaaGreatDoor.Lift
open Go Go.Conc
set_option linter.unusedVariables false
section
variable {V : Env}
theorem refused {f0 : FuncId} {Q : Value → World → Prop} {f : FuncId} {args : Array Value} {k : CallKind} {cs : List Frame} {w : World} {fn : Func} (hf : V.sh.funcs[f]? = some fn) (hb : fn.body = none ∨ ∃ why, fn.body = some (.refuse why)) :
    ¬ Fin V.sh (DoneAt V f0 Q) { frame := Frame.enter V.sh f args k, callers := cs ++ [bot V.sh], status := .running, dying := none } w := by
  intro h
  cases h with
  | stop hd =>
    obtain ⟨fr, v, he, hl, _⟩ := hd
    simp only [Goroutine.mk.injEq] at he
    have := hl.1
    rw [← he.1] at this
    simp [Frame.enter] at this
  | step G W E hgo _ _ =>
    have h1 := hgo (fun _ _ => 0)
    have hs : ∃ o, stepG V.sh true { frame := Frame.enter V.sh f args k, callers := cs ++ [bot V.sh], status := .running, dying := none } (on w (fun _ _ => 0) 0) = .ended o (on w (fun _ _ => 0) 0) := by
      rcases hb with hb | ⟨why, hb⟩
      · apply Exists.intro
        unfold stepG
        simp only [Frame.enter, hf, hb, Option.map_some, Option.bind_some, Option.getD_none]
        rfl
      · apply Exists.intro
        unfold stepG
        simp only [Frame.enter, hf, hb, Option.map_some, Option.bind_some, Option.getD_some]
        rfl
    obtain ⟨o, hs⟩ := hs
    rw [hs] at h1
    cases h1
end
end Go.Proofs.YtnikgcedifdaeaaGreatDoor.Lift
end

section
/- The shadow of any program; and the gate: from calls over the shadow to the true company's run. Generic. -/
namespace Go.Proofs.YtnikgcedifdaeaaGreatDoor.Lift
open Go Go.Conc
set_option linter.unusedSimpArgs false
set_option linter.unusedVariables false
/-- In the place of every function without a body. -/
def dead : Func := { name := "~", origin := "~", params := #[], resultTypes := #[], nfree := 0, ntmps := 0, results := #[], body := none, norace := false, tmpNames := #[] }
def refusing (fn : Func) : Func := { fn with body := some (.refuse "not in the shadow") }
def shade (P : Program) (fn : Func) : Func := match fn.body with
  | none => dead
  | some c => bif codeOk P c then fn else refusing fn
def shFunc (P : Program) (fU : Nat) (stub : Func) (i : Nat) (fn : Func) : Func := bif Nat.beq i fU then stub else shade P fn
def shadow (P : Program) (fU : Nat) (stub : Func) : Program := { P with funcs := P.funcs.mapIdx (shFunc P fU stub) }
section
variable {P : Program} {fU : Nat} {stub : Func}
theorem shadow_get (f : Nat) : (shadow P fU stub).funcs[f]? = (P.funcs[f]?).map (shFunc P fU stub f) := by
  simp [shadow, Array.getElem?_mapIdx]
theorem shadow_tab : (shadow P fU stub).toTables = P.toTables := rfl
theorem dead_find : Extern.find dead = none := by decide +kernel
theorem dead_next : Extern.findNext dead = none := by decide +kernel
theorem dead_init : ¬ (dead.name.endsWith ".init" && !dead.name.startsWith "(" && !dead.name.startsWith "gosem.") = true := by decide +kernel
theorem shFunc_stub (fn : Func) : shFunc P fU stub fU fn = stub := by simp [shFunc]
theorem shFunc_other {f : Nat} (h : f ≠ fU) (fn : Func) : shFunc P fU stub f fn = shade P fn := by
  have : Nat.beq f fU = false := by
    cases hb : Nat.beq f fU with
    | false => rfl
    | true => exact absurd (Nat.eq_of_beq_eq_true hb) h
  simp [shFunc, this]
/-- A function that is kept. -/
theorem shadow_keep {f : Nat} {fn : Func} {c : Code} (h : P.funcs[f]? = some fn) (hne : f ≠ fU) (hb : fn.body = some c) (hc : codeOk P c = true) : (shadow P fU stub).funcs[f]? = some fn := by
  rw [shadow_get, h, Option.map_some, shFunc_other hne]
  simp [shade, hb, hc]
theorem shadow_stub {fn : Func} (h : P.funcs[fU]? = some fn) : (shadow P fU stub).funcs[fU]? = some stub := by
  rw [shadow_get, h, Option.map_some, shFunc_stub]
/-- What is asked of the program and the stub: closed facts. -/
structure Shades (P : Program) (fU : Nat) (stub : Func) (uF : Func) (cs cu : Code) : Prop where
  at_ : P.funcs[fU]? = some uF
  name : stub.name = uF.name
  sb : stub.body = some cs
  ub : uF.body = some cu
  sok : codeOk P cs = true
  uok : codeOk P cu = false
  num : ∀ fn ∈ P.funcs, fn.name ≠ "runtime.NumGoroutine"
theorem convOk_tables {P' P : Program} (h : P'.toTables = P.toTables) (s d : TypeId) : convOk P' s d = convOk P s d := by
  unfold convOk
  simp only [tables_under h]
theorem opOk_tables {P' P : Program} (h : P'.toTables = P.toTables) (o : Oper) : opOk P' o = opOk P o := by
  unfold opOk
  split <;> simp only [tables_globals h, convOk_tables h]
theorem codeOk_tables {P' P : Program} (h : P'.toTables = P.toTables) : ∀ c, codeOk P' c = codeOk P c := by
  intro c
  induction c with
  | region _ ops _ => simp only [codeOk]; rw [show opOk P' = opOk P from funext fun o => opOk_tables h o]
  | seq a b ia ib => simp only [codeOk, ia, ib]
  | cond _ a b ia ib => simp only [codeOk, ia, ib]
  | block _ a ia => simp only [codeOk, ia]
  | loop a ia => simp only [codeOk, ia]
  | scope a ia => simp only [codeOk, ia]
  | _ => rfl
/-- Whatever stands in the shadow. -/
theorem shadow_cases {uF : Func} {cs cu : Code} (h : Shades P fU stub uF cs cu) {f : Nat} {a : Func} (ha : (shadow P fU stub).funcs[f]? = some a) :
    ∃ b, P.funcs[f]? = some b ∧ ((f = fU ∧ a = stub ∧ b = uF) ∨ (f ≠ fU ∧ ((b.body = none ∧ a = dead) ∨ ∃ c, b.body = some c ∧ ((codeOk P c = true ∧ a = b) ∨ (codeOk P c = false ∧ a = refusing b))))) := by
  rw [shadow_get] at ha
  obtain ⟨b, hb, rfl⟩ := Option.map_eq_some_iff.1 ha
  refine ⟨b, hb, ?_⟩
  by_cases hf : f = fU
  · subst hf
    exact .inl ⟨rfl, shFunc_stub _, Option.some.inj (hb.symm.trans h.at_)⟩
  · refine .inr ⟨hf, ?_⟩
    rw [shFunc_other hf]
    cases hbb : b.body with
    | none => exact .inl ⟨rfl, by simp [shade, hbb]⟩
    | some c =>
      refine .inr ⟨c, rfl, ?_⟩
      cases hc : codeOk P c with
      | true => exact .inl ⟨rfl, by simp [shade, hbb, hc]⟩
      | false => exact .inr ⟨rfl, by simp [shade, hbb, hc]⟩
theorem num_of {uF : Func} {cs cu : Code} (h : Shades P fU stub uF cs cu) {f : Nat} {b : Func} (hb : P.funcs[f]? = some b) : b.name ≠ "runtime.NumGoroutine" := h.num b (Array.mem_of_getElem? hb)
theorem shadow_dead {uF : Func} {cs cu : Code} (h : Shades P fU stub uF cs cu) {f : Nat} {a : Func} (ha : (shadow P fU stub).funcs[f]? = some a) (hb : a.body.isSome = false) : a = dead := by
  obtain ⟨b, _, hc⟩ := shadow_cases h ha
  rcases hc with ⟨rfl, rfl, rfl⟩ | ⟨_, ⟨_, rfl⟩ | ⟨c, hbb, ⟨_, rfl⟩ | ⟨_, rfl⟩⟩⟩
  · rw [h.sb] at hb; cases hb
  · rfl
  · rw [hbb] at hb; cases hb
  · cases hb
/-- The law of the steps, from the shadow to the true program. -/
theorem stepOk_shadow {uF : Func} {cs cu : Code} (h : Shades P fU stub uF cs cu) {V : Env} (h1 : V.sh = shadow P fU stub) (h2 : V.re = P) (hok : ∀ i, i < P.globals.size → V.ok i) : StepOk V := by
  refine ⟨⟨⟨by rw [h1, h2]; exact shadow_tab, fun i hi => hok i (h2 ▸ hi)⟩, fun f => ?_, fun f a b ha hb hs => ?_, fun f a ha hb => ?_, fun f a ha hb => ?_⟩, fun f fn c he hf hb => ?_⟩
  · rw [h1, h2, shadow_get]
    simp
  · rw [h1] at ha
    rw [h2] at hb
    obtain ⟨b', hb', hc⟩ := shadow_cases h ha
    obtain rfl := Option.some.inj (hb.symm.trans hb')
    rcases hc with ⟨rfl, rfl, rfl⟩ | ⟨_, ⟨_, rfl⟩ | ⟨c, hbb, ⟨_, rfl⟩ | ⟨_, rfl⟩⟩⟩
    · exact ⟨h.name, by rw [h.ub]; rfl, num_of h hb⟩
    · cases hs
    · exact ⟨rfl, hs, num_of h hb⟩
    · exact ⟨rfl, by rw [hbb]; rfl, num_of h hb⟩
  · rw [h1] at ha
    obtain rfl := shadow_dead h ha hb
    exact ⟨by decide, dead_next⟩
  · rw [h1] at ha
    obtain rfl := shadow_dead h ha hb
    exact .inr ⟨dead_find, dead_init⟩
  · rw [h2] at hf
    rw [h1, h2, hf] at he
    rw [h2]
    obtain ⟨b', hb', hc⟩ := shadow_cases h he
    obtain rfl := Option.some.inj (hf.symm.trans hb')
    rcases hc with ⟨rfl, e, rfl⟩ | ⟨_, ⟨hn, rfl⟩ | ⟨c', hbb, ⟨ho, _⟩ | ⟨ho, e⟩⟩⟩
    · rw [e] at h
      have := h.sb.symm.trans h.ub
      injection this with this
      have e1 := h.sok
      rw [this, h.uok] at e1
      cases e1
    · cases hb
    · rw [hb] at hbb
      injection hbb with hbb
      rw [hbb]; exact ho
    · have e1 := congrArg Func.body e
      rw [hb] at e1
      injection e1 with e1
      rw [e1]
      rfl
/-- The same, from the shadow to itself. -/
theorem stepOk_self {uF : Func} {cs cu : Code} (h : Shades P fU stub uF cs cu) {V : Env} (h1 : V.sh = shadow P fU stub) (h2 : V.re = shadow P fU stub) (hok : ∀ i, i < P.globals.size → V.ok i) : StepOk V := by
  have names : ∀ {f : Nat} {a : Func}, (shadow P fU stub).funcs[f]? = some a → a.name ≠ "runtime.NumGoroutine" := by
    intro f a ha
    obtain ⟨b, hb, hc⟩ := shadow_cases h ha
    have hn := num_of h hb
    rcases hc with ⟨rfl, rfl, rfl⟩ | ⟨_, ⟨_, rfl⟩ | ⟨c, hbb, ⟨_, rfl⟩ | ⟨_, rfl⟩⟩⟩
    · rw [h.name]; exact hn
    · decide
    · exact hn
    · exact hn
  refine ⟨⟨⟨by rw [h1, h2], fun i hi => hok i (by rw [h2] at hi; exact hi)⟩, fun f => by rw [h1, h2], fun f a b ha hb hs => ?_, fun f a ha hb => ?_, fun f a ha hb => ?_⟩, fun f fn c he hf hb => ?_⟩
  · rw [h1] at ha
    rw [h2] at hb
    obtain rfl := Option.some.inj (ha.symm.trans hb)
    exact ⟨rfl, hs, names ha⟩
  · rw [h1] at ha
    obtain rfl := shadow_dead h ha hb
    exact ⟨by decide, dead_next⟩
  · rw [h1] at ha
    obtain rfl := shadow_dead h ha hb
    exact .inr ⟨dead_find, dead_init⟩
  · rw [h2] at hf ⊢
    rw [codeOk_tables shadow_tab]
    obtain ⟨b', hb', hc⟩ := shadow_cases h hf
    rcases hc with ⟨rfl, rfl, rfl⟩ | ⟨_, ⟨hn, rfl⟩ | ⟨c', hbb, ⟨ho, rfl⟩ | ⟨ho, rfl⟩⟩⟩
    · have e := h.sb.symm.trans hb
      injection e with e
      rw [← e]
      exact h.sok
    · cases hb
    · rw [hb] at hbb
      injection hbb with hbb
      rw [hbb]; exact ho
    · have e1 : some (Code.refuse "not in the shadow") = some c := hb
      injection e1 with e1
      rw [← e1]
      rfl
end
/-- The world with its waiting blocks and loops hollowed. -/
def hollowed (W : World) : World := { W with heap := W.heap.map fun o => bif Obj.calm o then o else hollow }
def envOf (P : Program) (fU : Nat) (stub : Func) (W : World) : Env :=
  { sh := shadow P fU stub, re := P, E := 0, n0 := W.heap.size, strict := false, H0 := W.heap, ok := fun i => i < P.globals.size, bad0 := fun i => ∃ o, W.heap[i]? = some o ∧ Obj.calm o = false }
def selfOf (P : Program) (fU : Nat) (stub : Func) : Env :=
  { sh := shadow P fU stub, re := shadow P fU stub, E := 0, n0 := 0, strict := true, H0 := #[], ok := fun _ => True, bad0 := fun _ => False }
theorem hollowed_get (W : World) (i : Nat) : (hollowed W).heap[i]? = (W.heap[i]?).map fun o => bif Obj.calm o then o else hollow := by
  simp [hollowed]
theorem hollowed_calm {W : World} {i : Nat} {o : Obj} (h : W.heap[i]? = some o) (hc : Obj.calm o = true) : (hollowed W).heap[i]? = some o := by
  rw [hollowed_get, h]
  simp [hc]
section
variable {P : Program} {fU : Nat} {stub : Func} {W : World}
theorem sh_start : Sh (envOf P fU stub W) (envOf P fU stub W).bad0 (hollowed W) W := by
  have calm : ∀ i o, W.heap[i]? = some o → ¬ (envOf P fU stub W).bad0 i → Obj.calm o = true := fun i o h hb => by
    cases hc : Obj.calm o with
    | true => rfl
    | false => exact absurd ⟨o, h, hc⟩ hb
  have same : ∀ i, ¬ (envOf P fU stub W).bad0 i → W.heap[i]? = (hollowed W).heap[i]? := fun i hb => by
    cases h : W.heap[i]? with
    | none => rw [hollowed_get, h]; rfl
    | some o => exact (hollowed_calm h (calm i o h hb)).symm
  refine ⟨rfl, by simp [hollowed], fun i hi => .inl (same i hi), fun i hi => ?_, fun i hi => ?_, rfl, rfl, fun i o ho => ?_, fun h => (by cases h), fun i _ hb => same i hb, fun i _ _ => rfl⟩
  · obtain ⟨o, h, hc⟩ := hi
    rw [hollowed_get, h]
    simp [hc]
  · obtain ⟨o, h, hc⟩ := hi
    exact .inr ⟨(Array.getElem?_eq_some_iff.1 h).1, o, h, hc⟩
  · rw [hollowed_get] at ho
    obtain ⟨o', h, rfl⟩ := Option.map_eq_some_iff.1 ho
    cases hc : Obj.calm o' with
    | true => simp [hc]
    | false => simp [hollow, Obj.calm]
/-- What the shadow's run must show: the result, and that all elder blocks stand. -/
def Kept (W : World) (r : Value) (v : Value) (w : World) : Prop := v = r ∧ (∀ i, i < W.heap.size → w.heap[i]? = (hollowed W).heap[i]?) ∧ w.os = W.os ∧ w.output = W.output
def KeptT (W : World) (r : Value) (v : Value) (w : World) : Prop := v = r ∧ (∀ i, i < W.heap.size → w.heap[i]? = W.heap[i]?) ∧ w.os = W.os ∧ w.output = W.output
theorem gate {uF : Func} {cs cu : Code} (h : Shades P fU stub uF cs cu) {f : FuncId} {args : Array Value} {r : Value} (hfn : (shadow P fU stub).funcs[f]? = P.funcs[f]?) (hhas : (P.funcs[f]?).isSome = true) (noInit : P.inits.idxOf? f = none)
    (hP : Phase (envOf P fU stub W) (DoneAt (envOf P fU stub W) f (Kept W r))) (hg : ∀ i, i < P.globals.size → ∃ o, W.heap[i]? = some o ∧ Obj.calm o = true)
    (calls : ∀ τ, Calls (shadow P fU stub) f args (on (hollowed W) τ 0) fun e w => match e with | .returned v => Kept W r v w | _ => False) :
    Ended (envOf P fU stub W) (KeptT W r) #[{ frame := Frame.enter P f args .normal, callers := [], status := .running, dying := none }] W none #[] := by
  refine lift (V := envOf P fU stub W) (V1 := selfOf P fU stub) (Bad := (envOf P fU stub W).bad0) (W1 := hollowed W) (Q := Kept W r) (R := fun _ _ => True) (stepOk_shadow h rfl rfl fun i hi => hi) (stepOk_self h rfl rfl fun _ _ => trivial) rfl rfl rfl hfn (by show ((shadow P fU stub).funcs[f]?).isSome = true; rw [hfn]; exact hhas) noInit hP ⟨fun i hi hb => ?_, fun i hi => hi⟩ sh_start (fun i hi => ?_) (Nat.le_refl _) calls (fun v w τ d hq => hq) fun v w1 w2 Bad hb hq hS => ?_
  · obtain ⟨o, h1, h2⟩ := hg i hi
    obtain ⟨o', h3, h4⟩ := hb
    obtain rfl := Option.some.inj (h1.symm.trans h3)
    rw [h2] at h4
    cases h4
  · obtain ⟨o, h, _⟩ := hi
    exact (Array.getElem?_eq_some_iff.1 h).1
  · refine ⟨hq.1, fun i hi => ?_, hS.os.trans hq.2.2.1, hS.output.trans hq.2.2.2⟩
    by_cases hbi : Bad i
    · exact hS.old i hi hbi
    · rw [hS.low i hi hbi, hq.2.1 i hi]
      cases hw : W.heap[i]? with
      | none => rw [hollowed_get, hw]; rfl
      | some o =>
        cases hc : Obj.calm o with
        | true => exact hollowed_calm hw hc
        | false => exact absurd (hb i ⟨o, hw, hc⟩) hbi
end
end Go.Proofs.YtnikgcedifdaeaaGreatDoor.Lift
end

section
/- Trees whose every leaf meets a law; functions that the shadow keeps. Plain. -/
namespace Go.Proofs.YtnikgcedifdaeaaGreatDoor.Ab
open Go Go.Proofs.YtnikgcedifdaeaaGreatDoor.Lift
def TrAll {α : Type} (p : Nat → α → Prop) : Tr α → Prop
  | .leaf => True
  | .node l v r => (∀ x, v = some x → p 0 x) ∧ TrAll (fun n => p (2 * n + 1)) l ∧ TrAll (fun n => p (2 * n + 2)) r
theorem TrAll.get {α : Type} : ∀ (t : Tr α) (p : Nat → α → Prop) (n : Nat) (x : α), TrAll p t → t.get n = some x → p n x
  | .leaf, p, n, x, _, h => by rw [Tr.get_leaf] at h; cases h
  | .node l v r, p, n, x, ht, h => by
    rw [Tr.get_node] at h
    split at h
    · rename_i h0
      rw [natIs_eq h0]
      exact ht.1 x h
    · rename_i h0
      have h0 := natIs_ne h0
      split at h
      · rename_i h1
        have h1 := natIs_eq h1
        have := TrAll.get l _ _ _ ht.2.1 h
        rwa [show 2 * (n / 2) + 1 = n by omega] at this
      · rename_i h1
        have h1 := natIs_ne h1
        have := TrAll.get r _ _ _ ht.2.2 h
        rwa [show 2 * (n / 2 - 1) + 2 = n by omega] at this
theorem TrAll.leaf {α : Type} {p : Nat → α → Prop} : TrAll p (.leaf : Tr α) := trivial
theorem TrAll.some {α : Type} {p : Nat → α → Prop} {l r : Tr α} {v : α} (h : p 0 v) (hl : TrAll (fun n => p (2 * n + 1)) l) (hr : TrAll (fun n => p (2 * n + 2)) r) : TrAll p (.node l (Option.some v) r) :=
  ⟨fun x e => by cases e; exact h, hl, hr⟩
theorem TrAll.none {α : Type} {p : Nat → α → Prop} {l r : Tr α} (hl : TrAll (fun n => p (2 * n + 1)) l) (hr : TrAll (fun n => p (2 * n + 2)) r) : TrAll p (.node l Option.none r) := ⟨fun x e => (by cases e), hl, hr⟩
def keepB (P : Program) (fU n : Nat) (fn : Func) : Bool := !(Nat.beq n fU) && (match fn.body with | some c => codeOk P c | none => false) && !(fn.name == "runtime.NumGoroutine")
theorem keepOk {P : Program} {fU : Nat} {stub : Func} {n : Nat} {fn : Func} (h : P.funcs[n]? = some fn) (hc : keepB P fU n fn = true) : (shadow P fU stub).funcs[n]? = some fn ∧ (fn.name == "runtime.NumGoroutine") = false := by
  unfold keepB at hc
  simp only [Bool.and_eq_true, Bool.not_eq_true'] at hc
  obtain ⟨⟨h1, h2⟩, h3⟩ := hc
  split at h2
  · rename_i c hb
    exact ⟨shadow_keep h (fun e => by subst e; simp at h1) hb h2, h3⟩
  · cases h2
/-- A contract over the elder world gives the row's result. -/
theorem kept_of_same {W w : World} {τ : Tape} {d : Nat} {r v : Value} (hv : v = r) (hs : Same (on (hollowed W) τ d) w) : Kept W r v w :=
  ⟨hv, fun i hi => hs.heap i (by show i < (hollowed W).heap.size; simp [hollowed]; exact hi), hs.os, hs.output⟩
end Go.Proofs.YtnikgcedifdaeaaGreatDoor.Ab
end

section
/- Package-level variables as the ground of the reckoner. Generic. -/
set_option linter.unusedVariables false
namespace Go.Proofs.YtnikgcedifdaeaaGreatDoor.Ab
open Go Go.Proofs.YtnikgcedifdaeaaGreatDoor.Lift
noncomputable section
/-- A variable: its number, its cells, the same as the reckoner knows them, its type. -/
structure GVar where
  g : Nat
  cs : List Value
  acs : List AV
  t : TypeId
def GVar.ao (x : GVar) : AO := .cells x.acs x.t 1 false
def matchV : AV → Value → Bool
  | .bool a, .bool b => a == b
  | .int k e, .int m n => IntKind.same k m && e.same (.lit n)
  | .str s, .string x => eqBytes s (x.data.toList.map (·.toNat))
  | _, _ => false
theorem matchV_ok {Γ : Gam} {a : AV} {v : Value} (h : matchV a v = true) : VR Γ a v := by
  unfold matchV at h
  split at h
  · rw [beq_iff_eq.1 h]; exact .bool
  · rename_i k e m n
    rw [Bool.and_eq_true] at h
    rw [IntKind.same_eq h.1, Lin.same_eq h.2]
    exact .int (den_lit _ _).symm
  · rename_i s x
    rw [eqBytes_eq] at h
    exact .str (of_decide_eq_true h).symm
  · cases h
def matchAll : List AV → List Value → Bool
  | [], [] => true
  | a :: r, v :: s => matchV a v && matchAll r s
  | _, _ => false
theorem matchAll_ok {Γ : Gam} : ∀ {l : List AV} {m : List Value}, matchAll l m = true → VRs Γ l m
  | [], [], _ => .nil
  | a :: r, v :: s, h => by
    simp only [matchAll, Bool.and_eq_true] at h
    exact .cons (matchV_ok h.1) (matchAll_ok h.2)
  | [], _ :: _, h => by cases h
  | _ :: _, [], h => by cases h
def GL' (L : List GVar) (w : World) : Prop := ∀ x ∈ L, w.heap[x.g]? = some (.cells x.cs.toArray x.t)
theorem gl_known (L : List GVar) : Known (GL' L) := ⟨fun W w h _ hk x hx => (hk _ (Array.getElem?_eq_some_iff.1 (h x hx)).1).trans (h x hx)⟩
theorem gl_hollowed {L : List GVar} {W : World} (h : GL' L W) (τ : Tape) (d : Nat) : GL' L (on (hollowed W) τ d) := fun x hx => hollowed_calm (h x hx) rfl
def isG (L : List GVar) (n : Nat) : Bool := match L with
  | [] => false
  | x :: r => bif Nat.beq n x.g then true else isG r n
theorem isG_iff {n : Nat} : ∀ {L : List GVar}, isG L n = true → ∃ x ∈ L, n = x.g
  | [], h => by cases h
  | x :: r, h => by
    unfold isG at h
    cases hb : Nat.beq n x.g with
    | true => exact ⟨x, List.mem_cons_self, Nat.eq_of_beq_eq_true hb⟩
    | false =>
      rw [hb] at h
      obtain ⟨y, hy, e⟩ := isG_iff h
      exact ⟨y, List.mem_cons_of_mem _ hy, e⟩
noncomputable def rowsH : List GVar → Tr AO
  | [] => .leaf
  | x :: r => (rowsH r).set x.ao 10 x.g
theorem rowsH_get {b : Nat} {o : AO} : ∀ {L : List GVar}, (rowsH L).get b = some o → ∃ x ∈ L, b = x.g ∧ o = x.ao
  | [], h => by rw [rowsH, Tr.get_leaf] at h; cases h
  | x :: r, h => by
    rcases Tr.get_set 10 _ _ _ h with ⟨rfl, rfl⟩ | ⟨_, h⟩
    · exact ⟨x, List.mem_cons_self, rfl, rfl⟩
    · obtain ⟨y, hy, e⟩ := rowsH_get h
      exact ⟨y, List.mem_cons_of_mem _ hy, e⟩
/-- What is asked of the list: closed facts. -/
structure GOk (L : List GVar) (N : Nat) (h : Tr AO) : Prop where
  tr : h = rowsH L
  lt : (L.all fun x => Nat.blt x.g N) = true
  eq : (L.all fun x => matchAll x.acs x.cs) = true
  nrw : noRw h = true
noncomputable def baseOf (P : Program) (F : Tr Func) (L : List GVar) (N : Nat) (h : Tr AO) : Base := { P := P, F := F, gl := isG L, G := GL' L, A0 := ⟨N, N, h⟩, β := fun b => bif isG L b then some (b, 0) else none }
theorem base_fit_of {P : Program} {F : Tr Func} {L : List GVar} {N : Nat} {h : Tr AO} (hL : GOk L N h) (hm : P.follows .mixedOrders = true) (hf : ∀ f fn, F.get f = some fn → P.funcs[f]? = some fn ∧ (fn.name == "runtime.NumGoroutine") = false) : (baseOf P F L N h).Fit := by
  have hb : ∀ {b c s}, (baseOf P F L N h).β b = some (c, s) → c = b ∧ s = 0 ∧ isG L b = true := by
    intro b c s e
    have e : (bif isG L b then some (b, 0) else none) = some (c, s) := e
    cases hg : isG L b with
    | false => rw [hg] at e; cases e
    | true =>
      rw [hg] at e
      simp only [cond_true, Option.some.injEq, Prod.mk.injEq] at e
      exact ⟨e.1.symm, e.2.symm, rfl⟩
  have hget : ∀ {b o}, h.get b = some o → ∃ x ∈ L, b = x.g ∧ o = x.ao := fun e => rowsH_get (hL.tr ▸ e)
  refine ⟨hm, hf, gl_known L, fun ρ w hG => ⟨fun b c s o h1 h2 => ?_, fun b c s h1 => ?_, fun b b' c s s' o o' h1 h2 h3 _ h5 => ?_, fun b c s o h1 h2 h3 => ?_, fun _ _ => rfl, Nat.le_refl _, rfl, rfl, rfl, Nat.le_refl _, fun b o h1 => ?_⟩, fun g hg => ?_, fun i hi => ?_, hL.nrw⟩
  · obtain ⟨rfl, rfl, _⟩ := hb h1
    obtain ⟨x, hx, rfl, rfl⟩ := hget h2
    have hv : VRs ⟨ρ, (baseOf P F L N h).β, w⟩ x.acs x.cs := matchAll_ok (List.all_eq_true.1 hL.eq x hx)
    refine ⟨x.cs.toArray, (0, 0), hG x hx, by simp [hv.len], fun e => (by cases e), ?_⟩
    rw [hv.len]
    simpa using hv
  · obtain ⟨rfl, rfl, hg⟩ := hb h1
    obtain ⟨x, hx, rfl⟩ := isG_iff hg
    exact (Array.getElem?_eq_some_iff.1 (hG x hx)).1
  · obtain ⟨x, hx, _, rfl⟩ := hget h3
    cases h5
  · obtain ⟨x, hx, _, rfl⟩ := hget h2
    cases h3
  · obtain ⟨x, hx, rfl, _⟩ := hget h1
    exact Nat.le_of_ble_eq_true (List.all_eq_true.1 hL.lt x hx)
  · show (bif isG L g then some (g, 0) else none) = _
    rw [show isG L g = true from hg]
    rfl
  · have hi : N ≤ i := hi
    show (bif isG L i then some (i, 0) else none) = _
    cases hg : isG L i with
    | false => rfl
    | true =>
      obtain ⟨x, hx, rfl⟩ := isG_iff hg
      have : x.g < N := Nat.le_of_ble_eq_true (List.all_eq_true.1 hL.lt x hx)
      omega
def rowOf (P : Program) (g : Nat) : Option (Array Value × TypeId) := ((begin P (fun _ _ => 0) default).world.heap[g]?).bind Obj.row?
def rowTy (P : Program) (g : Nat) (t : TypeId) : Bool := match rowOf P g with
  | some (_, u) => Nat.beq u t
  | none => false
theorem gl_of {P : Program} {L : List GVar} {W : World} (hs : W.ShapedOpen P) (hg : (L.all fun x => Nat.blt x.g P.globals.size && rowTy P x.g x.t) = true) (h : ∀ x ∈ L, ∃ t fr, W.heap[x.g]? = some (.cells x.cs.toArray t fr)) : GL' L W := by
  intro x hx
  have h1 := List.all_eq_true.1 hg x hx
  rw [Bool.and_eq_true] at h1
  obtain ⟨g1, g2⟩ := h1
  obtain ⟨t, fr, e⟩ := h x hx
  unfold rowTy at g2
  split at g2
  · rename_i z u hr
    obtain rfl := Nat.eq_of_beq_eq_true g2
    obtain ⟨c, e1, _⟩ := hs.1 x.g z x.t (Nat.le_of_ble_eq_true g1) hr
    rw [e1] at e
    injection e with e
    injection e with a _ _
    rw [e1, a]
  · cases g2
def rowsAll (P : Program) : Bool := (List.range P.globals.size).all fun g => (rowOf P g).isSome
theorem calm_of {P : Program} {W : World} (hs : W.ShapedOpen P) (h : rowsAll P = true) : ∀ i, i < P.globals.size → ∃ o, W.heap[i]? = some o ∧ Obj.calm o = true := by
  intro i hi
  have h1 := List.all_eq_true.1 h i (by simpa using hi)
  obtain ⟨⟨z, t⟩, hr⟩ := Option.isSome_iff_exists.1 h1
  obtain ⟨c, e, _⟩ := hs.1 i z t hi hr
  exact ⟨_, e, rfl⟩
end
end Go.Proofs.YtnikgcedifdaeaaGreatDoor.Ab
end

section
/- sync.WaitGroup's functions in this program: the numbers. -/
namespace Go.Proofs.YtnikgcedifdaeaaGreatDoor.Up
abbrev link : Go.Conc.Lib.WgLink := { add := 128, done := 130, wait := 132, relMerge := 164, disable := 165, enable := 166, inBubble := 167, associate := 168, fatal := 169, uOr := 170, uAdd := 171, raceRead := 172, uLoad := 173, uStore := 174, disassociate := 175, semrelease := 176, acquire := 177, isAssociated := 178, uCas := 179, raceWrite := 180, semacquire := 181, orU64 := 205, addU64 := 206, loadU64 := 207, storeU64 := 208, casU64 := 209, tWgP := 171, tUP := 173, tAssoc := 174, tWg := 148, tAU := 145, tU64 := 143, tUint := 170, tU32 := 146, tPU32 := 178, tPAU := 205, tPU64 := 207, tNoCopy := 140, tANoCopy := 141, tAlign64 := 142 }
set_option maxRecDepth 100000 in
theorem wgLib : Go.Conc.Lib.WgLib Tryz.prog link :=
  ⟨Tryz.func128, Tryz.func130, Tryz.func132, Tryz.func164, Tryz.func165, Tryz.func166, Tryz.func167, Tryz.func168, Tryz.func169, Tryz.func170, Tryz.func171, Tryz.func172, Tryz.func173, Tryz.func174, Tryz.func175, Tryz.func176, Tryz.func177, Tryz.func178, Tryz.func179, Tryz.func180, Tryz.func181, Tryz.func205, Tryz.func206, Tryz.func207, Tryz.func208, Tryz.func209, Tryz.underlying171, Tryz.runUnderlying171, Tryz.sizeOf171, Tryz.isAgg171, Tryz.zeroValue171, Tryz.underlying173, Tryz.runUnderlying173, Tryz.sizeOf173, Tryz.isAgg173, Tryz.zeroValue173, Tryz.underlying174, Tryz.runUnderlying174, Tryz.sizeOf174, Tryz.isAgg174, Tryz.zeroValue174, Tryz.underlying148, Tryz.runUnderlying148, Tryz.sizeOf148, Tryz.isAgg148, Tryz.zeroValue148, Tryz.underlying145, Tryz.runUnderlying145, Tryz.sizeOf145, Tryz.isAgg145, Tryz.zeroValue145, Tryz.underlying143, Tryz.runUnderlying143, Tryz.sizeOf143, Tryz.isAgg143, Tryz.zeroValue143, Tryz.underlying170, Tryz.runUnderlying170, Tryz.sizeOf170, Tryz.isAgg170, Tryz.zeroValue170, Tryz.underlying146, Tryz.runUnderlying146, Tryz.sizeOf146, Tryz.isAgg146, Tryz.zeroValue146, Tryz.underlying178, Tryz.runUnderlying178, Tryz.sizeOf178, Tryz.isAgg178, Tryz.zeroValue178, Tryz.underlying205, Tryz.runUnderlying205, Tryz.sizeOf205, Tryz.isAgg205, Tryz.zeroValue205, Tryz.underlying207, Tryz.runUnderlying207, Tryz.sizeOf207, Tryz.isAgg207, Tryz.zeroValue207, Tryz.underlying0, Tryz.runUnderlying0, Tryz.sizeOf0, Tryz.isAgg0, Tryz.zeroValue0, Tryz.underlying3, Tryz.runUnderlying3, Tryz.sizeOf3, Tryz.isAgg3, Tryz.zeroValue3, Tryz.underlying4, Tryz.runUnderlying4, Tryz.sizeOf4, Tryz.isAgg4, Tryz.zeroValue4, Tryz.underlying9, Tryz.runUnderlying9, Tryz.sizeOf9, Tryz.isAgg9, Tryz.zeroValue9, Tryz.underlying20, Tryz.runUnderlying20, Tryz.sizeOf20, Tryz.isAgg20, Tryz.zeroValue20, Tryz.underlying21, Tryz.runUnderlying21, Tryz.sizeOf21, Tryz.isAgg21, Tryz.zeroValue21, (by kernel_rfl), (by kernel_rfl)⟩
end Go.Proofs.YtnikgcedifdaeaaGreatDoor.Up
end

section
/- week.From in company: whatever others do, it answers the same. -/
set_option linter.unusedVariables false
set_option linter.unusedSimpArgs false
namespace Go.Proofs.YtnikgcedifdaeaaGreatDoor.Up
open Go Go.Conc Go.RowKit
variable {main : Bool} {R : World → World → Prop} {D : World → World → Array Event → Prop}
def bq (a : Int) : Int := if a.tmod 7 < 0 then IntKind.i64.wrap (IntKind.i64.wrap (a.tdiv 7) - 1) else IntKind.i64.wrap (a.tdiv 7)
def br (a : Int) : Int := if a.tmod 7 < 0 then IntKind.i64.wrap (a.tmod 7 + 7) else a.tmod 7
set_option maxRecDepth 100000 in
theorem both_c (T : Terms R D) (hd : LetsDraw D) (hdr : ∀ w : World, R w { w with drawn := w.drawn + 1 }) : ∃ n, ∀ (a : Int) (w : World), CallsC Tryz.prog main R D 144 #[.int .i64 a, .int .i64 7] n w fun v w' => v = .tuple #[.int .i64 (bq a), .int .i64 (br a)] ∧ Since R w w' := by
  co_apply Exists.intro
  intro a w
  co_apply callsC_of_wpC Tryz.func144 (by rfl) rfl
  have hF : Since R w w := .refl w
  simp only [Tryz.ntmps144, List.size_toArray, List.length_cons, List.length_nil, Nat.reduceAdd, Nat.reduceSub, Array.replicate_succ, Array.replicate_zero, List.push_toArray, List.append_toArray, List.nil_append, List.cons_append]
  co_apply wpC_seq T
  co_reg T
  co_op (Since.rely T) hF (co_quiet T)
  co_op (Since.rely T) hF (co_quiet T)
  co_apply opsC_nil T
  co_then
  co_apply wpC_seq T
  co_held T hd hdr (Since R w) (Since.rely T) hF
  co_take 0 T (Since.rely T) hF hw (skip) (co_quiet T)
  co_take 1 T (Since.rely T) hF hw (skip) (co_quiet T)
  co_take 2 T (Since.rely T) hF hw (skip) (co_quiet T)
  co_take 3 T (Since.rely T) hF hw (skip) (co_quiet T)
  co_take 4 T (Since.rely T) hF hw (skip) (co_quiet T)
  co_take 5 T (Since.rely T) hF hw (skip) (co_quiet T)
  co_take 6 T (Since.rely T) hF hw (skip) (co_quiet T)
  co_take 7 T (Since.rely T) hF hw (skip) (co_quiet T)
  co_done
  co_go T (Since.rely T) hF (co_quiet T)
  co_split T (decide (a.tmod 7 < 0))
  · intro hx
    have hx' := of_decide_eq_true hx
    co_go T (Since.rely T) hF (co_quiet T)
    exact ⟨rfl, _, resultsC_tmp2 (by rfl) _, by simp [bq, br, hx'], hF⟩
  · intro hx
    have hx' := of_decide_eq_false hx
    co_go T (Since.rely T) hF (co_quiet T)
    exact ⟨rfl, _, resultsC_tmp2 (by rfl) _, by simp [bq, br, hx'], hF⟩
theorem Since.trans (T : Terms R D) {a b c : World} (h : Since R a b) (k : Since R b c) : Since R a c := by
  rcases k with rfl | k
  · exact h
  · exact h.rely T k
set_option maxRecDepth 100000 in
theorem mod_c (T : Terms R D) (hd : LetsDraw D) (hdr : ∀ w : World, R w { w with drawn := w.drawn + 1 }) : ∃ n, ∀ (a : Int) (w : World), CallsC Tryz.prog main R D 99 #[.int .i64 a, .int .i64 7] n w fun v w' => v = .tuple #[.int .i64 (br a), .int .i64 0] ∧ Since R w w' := by
  obtain ⟨nb, hb⟩ := both_c (main := main) T hd hdr
  co_apply Exists.intro
  intro a w
  co_apply callsC_of_wpC Tryz.func99 (by rfl) rfl
  have hF : Since R w w := .refl w
  simp only [Tryz.ntmps99, List.size_toArray, List.length_cons, List.length_nil, Nat.reduceAdd, Nat.reduceSub, Array.replicate_succ, Array.replicate_zero, List.push_toArray, List.append_toArray, List.nil_append, List.cons_append]
  co_go T (Since.rely T) hF (co_quiet T)
  (co_apply wpC_cond T (t := false) (by first | rfl | simp [Act.eval]); simp only [Bool.false_eq_true, ↓reduceIte])
  co_go T (Since.rely T) hF (co_quiet T)
  (co_apply opsC_call T rfl (by rfl) rfl
   · walk_nrm
     exact hb _ _
   intro _ _ hp
   obtain ⟨he, hs⟩ := hp
   subst he
   replace hF := Since.trans T hF hs
   clear hs
   walk_nrm)
  co_go T (Since.rely T) hF (co_quiet T)
  exact ⟨rfl, _, resultsC_tmp2 (by rfl) _, rfl, hF⟩
set_option maxRecDepth 100000 in
theorem weekday_c (T : Terms R D) (hd : LetsDraw D) (hdr : ∀ w : World, R w { w with drawn := w.drawn + 1 }) : ∃ n, ∀ (a : Int) (w : World), CallsC Tryz.prog main R D 52 #[.int .i64 a] n w fun v w' => v = .int .i64 (br a) ∧ Since R w w' := by
  obtain ⟨nb, hb⟩ := mod_c (main := main) T hd hdr
  co_apply Exists.intro
  intro a w
  co_apply callsC_of_wpC Tryz.func52 (by rfl) rfl
  have hF : Since R w w := .refl w
  simp only [Tryz.ntmps52, List.size_toArray, List.length_cons, List.length_nil, Nat.reduceAdd, Nat.reduceSub, Array.replicate_succ, Array.replicate_zero, List.push_toArray, List.append_toArray, List.nil_append, List.cons_append]
  co_go T (Since.rely T) hF (co_quiet T)
  (co_apply opsC_call T rfl (by rfl) rfl
   · walk_nrm
     exact hb _ _
   intro _ _ hp
   obtain ⟨he, hs⟩ := hp
   subst he
   replace hF := Since.trans T hF hs
   clear hs
   walk_nrm)
  co_go T (Since.rely T) hF (co_quiet T)
  exact ⟨rfl, _, resultsC_tmp (by rfl) _, rfl, hF⟩
/-- The first Saturday from a day on. -/
def wf (a : Int) : Int := IntKind.i64.wrap (a + br (IntKind.i64.wrap (6 - a)))
set_option maxRecDepth 100000 in
theorem from_c (T : Terms R D) (hd : LetsDraw D) (hdr : ∀ w : World, R w { w with drawn := w.drawn + 1 }) : ∃ n, ∀ (a : Int) (w : World), CallsC Tryz.prog main R D 157 #[.int .i64 a, .int .i64 6] n w fun v w' => v = .int .i64 (wf a) ∧ Since R w w' := by
  obtain ⟨nb, hb⟩ := weekday_c (main := main) T hd hdr
  co_apply Exists.intro
  intro a w
  co_apply callsC_of_wpC Tryz.func157 (by rfl) rfl
  have hF : Since R w w := .refl w
  simp only [Tryz.ntmps157, List.size_toArray, List.length_cons, List.length_nil, Nat.reduceAdd, Nat.reduceSub, Array.replicate_succ, Array.replicate_zero, List.push_toArray, List.append_toArray, List.nil_append, List.cons_append]
  co_go T (Since.rely T) hF (co_quiet T)
  (co_apply wpC_cond T (t := false) (by first | rfl | simp [Act.eval]); simp only [Bool.false_eq_true, ↓reduceIte])
  co_go T (Since.rely T) hF (co_quiet T)
  (co_apply opsC_call T rfl (by rfl) rfl
   · walk_nrm
     exact hb _ _
   intro _ _ hp
   obtain ⟨he, hs⟩ := hp
   subst he
   replace hF := Since.trans T hF hs
   clear hs
   walk_nrm)
  co_go T (Since.rely T) hF (co_quiet T)
  exact ⟨rfl, _, resultsC_tmp (by rfl) _, rfl, hF⟩
end Go.Proofs.YtnikgcedifdaeaaGreatDoor.Up
end

section
/- Two communications beside the kit's: a select whose send case meets a parked receiver; a receive that meets a goroutine parked at a select, at its send case. -/
set_option linter.unusedSimpArgs false
namespace Go.Proofs.YtnikgcedifdaeaaGreatDoor.Lift
open Go Go.Conc
section
variable {P : Program} {gs : Array Goroutine} {w w₁ : World} {sl : Option (Nat × Nat)} {i j k : Nat} {g g₂ gj : Goroutine} {es : Array Event} {c cap s r : Nat} {buf : Array Value} {tm closed : Bool} {v z zj : Value}
  {blocking : Bool} {shape shj : CommShape} {cs cases : Array CommCase}
/-- n cases come, the k-th a send on a channel at which one receiver is parked; no other case has a way. -/
theorem sel_send_meets (hi : gs[i]? = some g) (h : stepG P (i == 0) g w = .comm g₂ cases blocking shape w₁ es) (hk : cases[k]? = some (scase c v z))
    (ho : ∀ (m : Nat) (c' : CommCase), m ≠ k → cases[m]? = some c' → NoWays w₁ (gs.setIfInBounds i ph) c')
    (hc : w₁.heap[c]? = some (.chan cap buf false s r tm)) (hij : j ≠ i) (hj : gs[j]? = some (parked gj #[rcase c zj] shj)) (hp : partners (gs.setIfInBounds i ph) c false = [(j, 0)]) :
    runT P (crowd gs w sl) i = (.next (crowd ((gs.setIfInBounds j (gj.finishComm P #[rcase c zj] shj 0 v true)).setIfInBounds i (g₂.finishComm P cases shape k undef false)) (w₁.setChan c cap buf false (s + 1) (r + 1) tm) sl),
      MemOp.ofEvents i g.frame.fn g.frame.place es ++ #[{ g := i, fn := g₂.frame.fn, pos := g₂.frame.place, act := .send c s }, { g := j, fn := gj.frame.fn, pos := gj.frame.place, act := .recv c r cap },
        { g := i, fn := g₂.frame.fn, pos := g₂.frame.place, act := .sendDone c s }, { g := j, fn := gj.frame.fn, pos := gj.frame.place, act := .recvDone c r }]) := by
  have hw : ways w₁ (gs.setIfInBounds i ph) (scase c v z) = [.partner j 0] := by simp [ways, scase, hc, hp]
  have hj' := stand_get (i := i) hij hj
  have hfp := finishPartner_at P (gs.setIfInBounds i ph) hj' (cs := #[rcase c zj]) (sh := shj) rfl 0 v
  have hgd : (gs.setIfInBounds i ph).getD j default = parked gj #[rcase c zj] shj := by rw [Array.getD_eq_getD_getElem?, hj']; rfl
  rw [runT_crowd_comm hi h]
  unfold communicate
  simp only [ready_one hk (by rw [hw]; simp) ho, hw]
  rw [if_neg]
  · simp [choose, Sem.run, Question.forced, bind, Sem.bind, pure, rcase, crowd, hc, hfp, hgd, set_stand2, finishComm_parked, scase, parked, World.setChan]
    rfl
  · rw [Bool.not_eq_true]; exact any_ill (made_of_one hk (made_send v z hc) ho)
/-- A receive comes to a channel at which one goroutine is parked at a select, its k-th case a send there. -/
theorem recv_meets_sel (hi : gs[i]? = some g) (h : stepG P (i == 0) g w = .comm g₂ #[rcase c z] blocking shape w₁ es) (hc : w₁.heap[c]? = some (.chan cap #[] closed s r tm))
    (hij : j ≠ i) (hj : gs[j]? = some (parked gj cs shj)) (hk : cs[k]? = some (scase c v zj)) (hp : partners (gs.setIfInBounds i ph) c true = [(j, k)]) :
    runT P (crowd gs w sl) i = (.next (crowd ((gs.setIfInBounds j (gj.finishComm P cs shj k undef false)).setIfInBounds i (g₂.finishComm P #[rcase c z] shape 0 v true)) (w₁.setChan c cap #[] closed (s + 1) (r + 1) tm) sl),
      MemOp.ofEvents i g.frame.fn g.frame.place es ++ #[{ g := j, fn := gj.frame.fn, pos := gj.frame.place, act := .send c s }, { g := i, fn := g₂.frame.fn, pos := g₂.frame.place, act := .recv c r cap },
        { g := j, fn := gj.frame.fn, pos := gj.frame.place, act := .sendDone c s }, { g := i, fn := g₂.frame.fn, pos := g₂.frame.place, act := .recvDone c r }]) := by
  rw [runT_crowd_comm hi h]
  have hj' := stand_get (i := i) hij hj
  have hfp := finishPartner_at P (gs.setIfInBounds i ph) hj' (cs := cs) (sh := shj) rfl k undef
  have hgd : (gs.setIfInBounds i ph).getD j default = parked gj cs shj := by rw [Array.getD_eq_getD_getElem?, hj']; rfl
  have hov : offeredValue (gs.setIfInBounds i ph) j k = v := by simp [offeredValue, hj', parked, scase, hk]
  simp [communicate, ways, rcase, hc, hp, choose, Sem.run, Question.forced, bind, Sem.bind, pure, World.setChan, crowd, hfp, hgd, hov, set_stand2, finishComm_parked, scase, parked, hk]
  rfl
/-- n cases come, the k-th a receive on a closed channel without a buffer at which nobody sends; no other case has a way. -/
theorem sel_closed (hi : gs[i]? = some g) (h : stepG P (i == 0) g w = .comm g₂ cases blocking shape w₁ es) (hk : cases[k]? = some (rcase c z))
    (ho : ∀ (m : Nat) (c' : CommCase), m ≠ k → cases[m]? = some c' → NoWays w₁ (gs.setIfInBounds i ph) c')
    (hc : w₁.heap[c]? = some (.chan cap #[] true s r tm)) (hp : partners (gs.setIfInBounds i ph) c true = []) :
    runT P (crowd gs w sl) i = (.next (crowd (gs.setIfInBounds i (g₂.finishComm P cases shape k z false)) w₁ sl),
      MemOp.ofEvents i g.frame.fn g.frame.place es ++ #[{ g := i, fn := g₂.frame.fn, pos := g₂.frame.place, act := .recvClosed c }]) := by
  have hw : ways w₁ (gs.setIfInBounds i ph) (rcase c z) = [.closed] := by simp [ways, rcase, hc, hp]
  rw [runT_crowd_comm hi h]
  unfold communicate
  simp only [ready_one hk (by rw [hw]; simp) ho, hw]
  rw [if_neg]
  · simp [choose, Sem.run, Question.forced, bind, Sem.bind, pure, rcase, crowd, hc]
  · rw [Bool.not_eq_true]; exact any_ill (made_of_one hk (made_recv z hc) ho)
end
end Go.Proofs.YtnikgcedifdaeaaGreatDoor.Lift
end

section
/- Two goroutines that talk, beside others that only leave: the state, and its single steps. -/
set_option linter.unusedSectionVars false
set_option linter.unusedVariables false
set_option linter.unusedSimpArgs false
namespace Go.Proofs.YtnikgcedifdaeaaGreatDoor.Lift
open Go Go.Conc Go.ConcX
open Go.ConcN (sumTo upd sumTo_upd upd_ne upd_same)
section
variable (Mine : Loc → Prop) (Wg C : Nat) [Shy Wg C] (c : Nat) (t₀ : Trace)
/-- What the two traces bear: the small one of the two, the great one of all. -/
structure Tr (s T : Trace) (p : Nat) : Prop where
  lk : Linked c t₀ s T
  jt : JT Mine Wg C s p
  d0 : Deaf s 0 = 0
  d1 : Deaf s 1 = 0
  na : NoAcq Wg s
end
section
variable {Mine : Loc → Prop} {Wg C : Nat} [Shy Wg C] {c : Nat} {t₀ s T : Trace} {p : Nat}
theorem Tr.ev0 (h : Tr Mine Wg C c t₀ s T p) (hc : c ≠ 0) {es : Array Event} (hes : ∀ e ∈ es, EvQ Mine Wg C 0 e) (fn : FuncId) (pos : String) :
    Tr Mine Wg C c t₀ (s ++ MemOp.ofEvents 0 fn pos es) (T ++ MemOp.ofEvents 0 fn pos es) p :=
  ⟨h.lk.events hc (.inl rfl) fn pos es, h.jt.app (.inl rfl) (ok_of_EvQ hes) (fun e => by cases e), by rw [Deaf_own, h.d0, deafBehind_of_EvQ hes], by rw [Deaf_other s (by decide) _ g_of_ofEvents, h.d1], h.na.app (noacq_of_EvQ hes)⟩
theorem Tr.ev1 (h : Tr Mine Wg C c t₀ s T p) (hc : c ≠ 0) {es : Array Event} (hes : ∀ e ∈ es, EvQ Mine Wg C 1 e) (fn : FuncId) (pos : String) :
    Tr Mine Wg C c t₀ (s ++ MemOp.ofEvents 1 fn pos es) (T ++ MemOp.ofEvents c fn pos es) p :=
  ⟨h.lk.events hc (.inr rfl) fn pos es, h.jt.app (.inr rfl) (ok_of_EvQ hes) (fun _ => .inr h.na), by rw [Deaf_other s (by decide) _ g_of_ofEvents, h.d0], by rw [Deaf_own, h.d1, deafBehind_of_EvQ hes], h.na.app (noacq_of_EvQ hes)⟩
theorem deafStep_plain {g d : Nat} {op : MemOp} (h : ∀ m, op.act ≠ .mark m) : deafStep g d op = d := by
  obtain ⟨a, b, e, act⟩ := op
  cases act with
  | mark m => exact absurd rfl (h m)
  | _ => rfl
/-- An operation of one of the two that touches nothing. -/
theorem Tr.op (h : Tr Mine Wg C c t₀ s T p) (hc : c ≠ 0) (g : Nat) (hg : g = 0 ∨ g = 1) {op : MemOp} (hog : op.g = g) (ht : op.act.touch? = none) (hk : Shy.ok Wg C op.act) (hm : ∀ m, op.act ≠ .mark m) :
    Tr Mine Wg C c t₀ (s ++ #[op]) (T ++ #[renOp c op]) p := by
  obtain ⟨φ, L⟩ := h.lk
  refine ⟨⟨_, L.both hc (hog ▸ hg)⟩, h.jt.app hg (fun o ho => ?_) (fun _ => .inr h.na), by rw [Deaf_push, deafStep_plain hm, h.d0], by rw [Deaf_push, deafStep_plain hm, h.d1], h.na.app (fun o ho => ?_)⟩
  · obtain rfl : o = op := by simpa using ho
    exact ⟨hog, fun x hx => (by rw [ht] at hx; cases hx), hm _, hk⟩
  · obtain rfl : o = op := by simpa using ho
    exact hm _
/-- Four of them. -/
theorem Tr.ops4 (h : Tr Mine Wg C c t₀ s T p) (hc : c ≠ 0) {o1 o2 o3 o4 : MemOp} (hok : ∀ o, o = o1 ∨ o = o2 ∨ o = o3 ∨ o = o4 → (o.g = 0 ∨ o.g = 1) ∧ o.act.touch? = none ∧ Shy.ok Wg C o.act ∧ ∀ m, o.act ≠ .mark m) :
    Tr Mine Wg C c t₀ (s ++ #[o1, o2, o3, o4]) (T ++ #[renOp c o1, renOp c o2, renOp c o3, renOp c o4]) p := by
  have e1 : s ++ #[o1, o2, o3, o4] = s ++ #[o1] ++ #[o2] ++ #[o3] ++ #[o4] := by apply Array.toList_inj.1; simp
  have e2 : T ++ #[renOp c o1, renOp c o2, renOp c o3, renOp c o4] = T ++ #[renOp c o1] ++ #[renOp c o2] ++ #[renOp c o3] ++ #[renOp c o4] := by apply Array.toList_inj.1; simp
  obtain ⟨g1, a1, b1, c1⟩ := hok o1 (.inl rfl)
  obtain ⟨g2, a2, b2, c2⟩ := hok o2 (.inr (.inl rfl))
  obtain ⟨g3, a3, b3, c3⟩ := hok o3 (.inr (.inr (.inl rfl)))
  obtain ⟨g4, a4, b4, c4⟩ := hok o4 (.inr (.inr (.inr rfl)))
  rw [e1, e2]
  exact (((h.op hc _ g1 rfl a1 b1 c1).op hc _ g2 rfl a2 b2 c2).op hc _ g3 rfl a3 b3 c3).op hc _ g4 rfl a4 b4 c4
end
section
variable {P : Program} {c : Nat} {gs : Array Goroutine} {a b a' b' : Goroutine} {T : Trace} {q : Nat → Nat}
theorem big_hc0 (h : Big P c gs a b T q) : c ≠ 0 := Nat.ne_of_gt h.pos
theorem big_clt (h : Big P c gs a b T q) : c < gs.size := by rw [h.size]; exact Nat.lt_succ_self c
/-- A step of the caller's. -/
theorem big_own0 (h : Big P c gs a b T q) {w' : World} (hb : woken P a a' w' b = b') (fn : FuncId) (pos : String) (es : Array Event) :
    Big P c ((gs.map (woken P a a' w')).setIfInBounds 0 a') a' b' (T ++ MemOp.ofEvents 0 fn pos es) q := by
  have hlt : 0 < gs.size := by rw [h.size]; exact Nat.succ_pos c
  refine ⟨by simp [h.size], h.pos, by simp [hlt], ?_, fun j x hj hjc hx => ?_, fun j hj => by rw [Deaf_other T (g' := 0) (by omega) _ g_of_ofEvents]; exact h.above j hj⟩
  · rw [Array.getElem?_setIfInBounds_ne (Ne.symm (big_hc0 h)), Array.getElem?_map, h.hc, Option.map_some, hb]
  · rw [Array.getElem?_setIfInBounds_ne (by omega), Array.getElem?_map] at hx
    obtain ⟨y, hy, rfl⟩ := Option.map_eq_some_iff.1 hx
    have hq := h.old j y hj hjc hy
    rw [woken_quitsD hq, Deaf_other T (g' := 0) (by omega) _ g_of_ofEvents]
    exact hq
/-- A step of the child's. -/
theorem big_own1 (h : Big P c gs a b T q) {w' : World} (ha : woken P b b' w' a = a') (fn : FuncId) (pos : String) (es : Array Event) :
    Big P c ((gs.map (woken P b b' w')).setIfInBounds c b') a' b' (T ++ MemOp.ofEvents c fn pos es) q := by
  refine ⟨by simp [h.size], h.pos, ?_, by simp [big_clt h], fun j x hj hjc hx => ?_, fun j hj => by rw [Deaf_other T (g' := c) (by omega) _ g_of_ofEvents]; exact h.above j hj⟩
  · rw [Array.getElem?_setIfInBounds_ne (big_hc0 h), Array.getElem?_map, h.h0, Option.map_some, ha]
  · rw [Array.getElem?_setIfInBounds_ne (by omega), Array.getElem?_map] at hx
    obtain ⟨y, hy, rfl⟩ := Option.map_eq_some_iff.1 hx
    have hq := h.old j y hj hjc hy
    rw [woken_quitsD hq, Deaf_other T (g' := c) (by omega) _ g_of_ofEvents]
    exact hq
/-- The two are put anew; nobody says 'disable' or 'enable'. -/
theorem big_both (h : Big P c gs a b T q) {U : Trace} (hU : ∀ op ∈ U, op.act ≠ .mark .disable ∧ op.act ≠ .mark .enable) {gs' : Array Goroutine} (hs : gs'.size = gs.size) (h0 : gs'[0]? = some a') (h1 : gs'[c]? = some b')
    (ho : ∀ j, 0 < j → j < c → gs'[j]? = gs[j]?) : Big P c gs' a' b' (T ++ U) q :=
  ⟨hs.trans h.size, h.pos, h0, h1, fun j x hj hjc hx => by
    rw [ho j hj hjc] at hx
    rw [Deaf_keep _ j _ hU]
    exact h.old j x hj hjc hx, fun j hj => by rw [Deaf_keep _ j _ hU]; exact h.above j hj⟩
/-- Who may be picked. -/
theorem big_pick (h : Big P c gs a b T q) (ha : awake a) (hb : awake b) (hr : a.status = .running ∨ b.status = .running) (w : World) (sl : Option (Nat × Nat)) :
    ∃ i d sl', stepT P (crowd gs w sl) = runT P (crowd gs (w.at d) sl') i ∧ ((i = 0 ∧ a.status = .running) ∨ (i = c ∧ b.status = .running) ∨
      ∃ k g g' es, 0 < i ∧ i < c ∧ gs[i]? = some g ∧ q i = k + 1 ∧ (∀ e ∈ es, Event.mute e = true) ∧ (∀ w, stepG P false g w = .go g' w es) ∧ QuitsD P k (deafBehind (Deaf T i) es) g') := by
  have hsz := h.size
  have haw : ∀ g ∈ gs, awake g := by
    intro g hg
    obtain ⟨i, hi, rfl⟩ := Array.mem_iff_getElem.1 hg
    have hgi : gs[i]? = some gs[i] := Array.getElem?_eq_getElem hi
    by_cases h0 : i = 0
    · subst h0; rw [h.h0] at hgi; rw [← Option.some.inj hgi]; exact ha
    · by_cases h1 : i = c
      · subst h1; rw [h.hc] at hgi; rw [← Option.some.inj hgi]; exact hb
      · exact awake_of ((h.old i _ (by omega) (by omega) hgi).status.elim .inl fun x => .inr (.inr x))
  obtain ⟨i, g, d, sl', hi, hg, hst⟩ := crowd_pick (P := P) (w := w) (sl := sl) haw (hr.elim (fun x => ⟨0, a, h.h0, x⟩) (fun x => ⟨c, b, h.hc, x⟩))
  refine ⟨i, d, sl', hst, ?_⟩
  have hilt : i < gs.size := (Array.getElem?_eq_some_iff.1 hi).1
  by_cases h0 : i = 0
  · subst h0
    rw [h.h0] at hi
    exact .inl ⟨rfl, by rw [Option.some.inj hi]; exact hg⟩
  by_cases h1 : i = c
  · subst h1
    rw [h.hc] at hi
    exact .inr (.inl ⟨rfl, by rw [Option.some.inj hi]; exact hg⟩)
  have hq := h.old i g (by omega) (by omega) hi
  cases hqi : q i with
  | zero => rw [hqi] at hq; rw [hq.1] at hg; cases hg
  | succ k =>
    rw [hqi] at hq
    rcases hq with ⟨hf, _⟩ | ⟨_, g', es, hm, hstp, hq'⟩
    · rw [hf] at hg; cases hg
    exact .inr (.inr ⟨k, g, g', es, by omega, by omega, hi, rfl, hm, hstp, hq'⟩)
/-- One of the others slips. -/
theorem big_slip (h : Big P c gs a b T q) {i k : Nat} {g g' : Goroutine} {es : Array Event} (hi : 0 < i) (hic : i < c) (hg : gs[i]? = some g) (hq : q i = k + 1) (hm : ∀ e ∈ es, Event.mute e = true)
    (hst : ∀ w, stepG P false g w = .go g' w es) (hq' : QuitsD P k (deafBehind (Deaf T i) es) g') {w : World} {sl : Option (Nat × Nat)} (ha : woken P g g' w a = a') (hb : woken P g g' w b = b') :
    ∃ gs' q', runT P (crowd gs w sl) i = (.next (crowd gs' w sl), MemOp.ofEvents i g.frame.fn g.frame.place es) ∧ sumTo c q' < sumTo c q ∧ Big P c gs' a' b' (T ++ MemOp.ofEvents i g.frame.fn g.frame.place es) q' := by
  have hi0 : (i == 0) = false := by simp; omega
  have hilt : i < gs.size := (Array.getElem?_eq_some_iff.1 hg).1
  have hrunT := runT_crowd_go (P := P) (sl := sl) (i := i) hg (by rw [hi0]; exact hst w)
  have hsum : sumTo c (upd q i k) + (k + 1) = sumTo c q + k := by
    have := sumTo_upd q k id hic
    simpa [hq] using this
  refine ⟨_, upd q i k, hrunT, by omega, ⟨by simp [h.size], h.pos, ?_, ?_, fun j x hj hjc hx => ?_, fun j hj => by rw [Deaf_other T (g' := i) (by omega) _ g_of_ofEvents]; exact h.above j hj⟩⟩
  · rw [Array.getElem?_setIfInBounds_ne (by omega), Array.getElem?_map, h.h0, Option.map_some, ha]
  · rw [Array.getElem?_setIfInBounds_ne (by omega), Array.getElem?_map, h.hc, Option.map_some, hb]
  · by_cases hji : i = j
    · subst hji
      rw [Array.getElem?_setIfInBounds_self_of_lt (by simpa using hilt)] at hx
      obtain rfl := Option.some.inj hx
      rw [upd_same, Deaf_own]
      exact hq'
    · rw [Array.getElem?_setIfInBounds_ne hji, Array.getElem?_map] at hx
      obtain ⟨y, hy, rfl⟩ := Option.map_eq_some_iff.1 hx
      have hqj := h.old j y hj hjc hy
      rw [woken_quitsD hqj, upd_ne q k (Ne.symm hji), Deaf_other T hji _ g_of_ofEvents]
      exact hqj
theorem Tr.slip {Mine : Loc → Prop} {Wg C : Nat} [Shy Wg C] {t₀ s : Trace} {p i : Nat} (h : Tr Mine Wg C c t₀ s T p) (hi : 0 < i) (hic : i < c) (fn : FuncId) (pos : String) {es : Array Event} (hm : ∀ e ∈ es, Event.mute e = true) :
    Tr Mine Wg C c t₀ s (T ++ MemOp.ofEvents i fn pos es) p := ⟨h.lk.mutes (by omega) (by omega) fn pos hm, h.jt, h.d0, h.d1, h.na⟩
/-- Nobody but the two is parked. -/
theorem big_nobody (h : Big P c gs a b T q) {j : Nat} {g : Goroutine} (hj : gs[j]? = some g) (h0 : j ≠ 0) (h1 : j ≠ c) (r : Nat) (send : Bool) : offersAt g r send = [] := by
  have hlt : j < gs.size := (Array.getElem?_eq_some_iff.1 hj).1
  have hsz := h.size
  exact offersAt_of_not_blocked (by rcases (h.old j g (by omega) (by omega) hj).status with e | e <;> rw [e] <;> simp) r send
/-- No partner at all, as the two are not. -/
theorem big_alone (h : Big P c gs a b T q) {i : Nat} {r : Nat} {send : Bool} (ha : i = 0 ∨ offersAt a r send = []) (hb : i = c ∨ offersAt b r send = []) : partners (gs.setIfInBounds i ph) r send = [] := by
  refine partners_nil fun j g hj => ?_
  rcases getElem?_stand gs i j g hj with ⟨_, rfl⟩ | ⟨hji, hg⟩
  · rfl
  · by_cases h0 : j = 0
    · subst h0
      rw [h.h0] at hg
      rw [← Option.some.inj hg]
      exact ha.resolve_left fun e => hji e.symm
    · by_cases h1 : j = c
      · subst h1
        rw [h.hc] at hg
        rw [← Option.some.inj hg]
        exact hb.resolve_left fun e => hji e.symm
      · exact big_nobody h hg h0 h1 r send
end
end Go.Proofs.YtnikgcedifdaeaaGreatDoor.Lift
end

section
/- The two talk: the child offers value after value at a select (a send on Out, a receive on End); the caller walks, and receives. On whatever tape. -/
set_option linter.unusedSectionVars false
set_option linter.unusedVariables false
set_option linter.unusedSimpArgs false
namespace Go.Proofs.YtnikgcedifdaeaaGreatDoor.Lift
open Go Go.Conc Go.ConcX
open Go.ConcN (sumTo upd sumTo_upd upd_ne upd_same)
def RK (Low Out End Wg : Nat) (w w₁ : World) : Prop := ∀ b, b < Low → b ≠ Out → b ≠ End → b ≠ Wg → w₁.heap[b]? = w.heap[b]?
def cs2 (Out End : Nat) (zs ze v : Value) : Array CommCase := #[scase Out v zs, rcase End ze]
def Open (Out End : Nat) (w : World) : Prop := (∃ s r, w.heap[Out]? = some (.chan 0 #[] false s r false)) ∧ ∃ s r, w.heap[End]? = some (.chan 0 #[] false s r false)
section
variable (Mine : Loc → Prop) (Wg C : Nat) [Shy Wg C]
def DK (w w' : World) (es : Array Event) : Prop := (∃ d, w' = w.at d) ∧ ∀ e ∈ es, EvQ Mine Wg C 1 e
end
/-- A draw at most, and no event. -/
def Dq (w w' : World) (es : Array Event) : Prop := (∃ d, w' = w.at d) ∧ ∀ e ∈ es, False
theorem Dq.dk {Mine : Loc → Prop} {Wg C : Nat} [Shy Wg C] {w w' : World} {es : Array Event} (h : Dq w w' es) : DK Mine Wg C w w' es := ⟨h.1, fun e he => (h.2 e he).elim⟩
section
variable (P : Program) (D : World → World → Array Event → Prop) (Wg Low Out End : Nat) (zs ze : Value) (sh : CommShape) (Sel : Value → Goroutine → Prop)
/-- The child at its select. -/
structure KidOk (nx : Value → Value) : Prop where
  run : ∀ v g, Sel v g → g.status = .running
  comm : ∀ v g, Sel v g → ∀ w, stepG P false g w = .comm g (cs2 Out End zs ze v) true sh w #[]
  next : ∀ v g, Sel v g → ∀ w, ∃ m, Goes P false (RK Low Out End Wg) Dq (fun g _ => Sel (nx v) g) m (g.finishComm P (cs2 Out End zs ze v) sh 0 undef false) w
/-- It is on its way there, or parked there. -/
def Kid (mk : Nat) (v : Value) (b : Goroutine) (w : World) : Prop :=
  (∃ m, mk = m + 1 ∧ Goes P false (RK Low Out End Wg) D (fun g _ => Sel v g) m b w) ∨ (mk = 0 ∧ ∃ g, Sel v g ∧ b = parked g (cs2 Out End zs ze v) sh)
end
section
variable {P : Program} {D : World → World → Array Event → Prop} {Mine : Loc → Prop} {Wg C : Nat} [Shy Wg C] {Low Out End : Nat} {zs ze : Value} {sh : CommShape} {Sel : Value → Goroutine → Prop} {nx : Value → Value}
theorem RK.trans {a b c : World} (h : RK Low Out End Wg a b) (k : RK Low Out End Wg b c) : RK Low Out End Wg a c := fun i h1 h2 h3 h4 => (k i h1 h2 h3 h4).trans (h i h1 h2 h3 h4)
theorem rk_at (w : World) (d : Nat) : RK Low Out End Wg w (w.at d) := fun _ _ _ _ _ => rfl
theorem Open.of_heap {w w' : World} (h : Open Out End w) (e1 : w'.heap[Out]? = w.heap[Out]?) (e2 : w'.heap[End]? = w.heap[End]?) : Open Out End w' := by
  obtain ⟨⟨s, r, h1⟩, s', r', h2⟩ := h
  exact ⟨⟨s, r, e1.trans h1⟩, s', r', e2.trans h2⟩
theorem Kid.rely {mk : Nat} {v : Value} {b : Goroutine} {w w₁ : World} (h : Kid P D Wg Low Out End zs ze sh Sel mk v b w) (hr : RK Low Out End Wg w w₁) : Kid P D Wg Low Out End zs ze sh Sel mk v b w₁ :=
  h.imp (fun ⟨m, e, hg⟩ => ⟨m, e, Goes.rely (R := RK Low Out End Wg) (fun _ _ _ h1 h2 => RK.trans h1 h2) hg hr⟩) id
theorem again_cs2 {g : Goroutine} {w : World} {v : Value} (h : Open Out End w) : (parked g (cs2 Out End zs ze v) sh).again w = parked g (cs2 Out End zs ze v) sh := by
  obtain ⟨⟨s, r, h1⟩, s', r', h2⟩ := h
  simp [Goroutine.again, parked, cs2, scase, rcase, h1, h2]
theorem woken_cs2 {g a a' : Goroutine} {w : World} {v : Value} (h : Open Out End w) : woken P a a' w (parked g (cs2 Out End zs ze v) sh) = parked g (cs2 Out End zs ze v) sh := by
  unfold woken
  split
  · exact again_cs2 h
  · rfl
theorem Kid.awake {mk : Nat} {v : Value} {b : Goroutine} {w : World} (hK : KidOk P Wg Low Out End zs ze sh Sel nx) (h : Kid P D Wg Low Out End zs ze sh Sel mk v b w) : awake b := by
  rcases h with ⟨m, _, hg⟩ | ⟨_, g, _, rfl⟩
  · exact awake_of (.inl (hg.running (fun g _ x => hK.run _ _ x) w (fun _ _ _ _ _ => rfl)))
  · exact awake_of (.inr (.inl rfl))
theorem Kid.woken {mk : Nat} {v : Value} {b : Goroutine} {w w₁ : World} (hK : KidOk P Wg Low Out End zs ze sh Sel nx) (h : Kid P D Wg Low Out End zs ze sh Sel mk v b w) (ho : Open Out End w₁) (a a' : Goroutine) : woken P a a' w₁ b = b := by
  rcases h with ⟨m, _, hg⟩ | ⟨_, g, _, rfl⟩
  · exact woken_run (hg.running (fun g _ x => hK.run _ _ x) w (fun _ _ _ _ _ => rfl))
  · exact woken_cs2 ho
theorem offers_cs2 {g : Goroutine} {v : Value} (hne : Out ≠ End) : offersAt (parked g (cs2 Out End zs ze v) sh) Out true = [0] ∧ offersAt (parked g (cs2 Out End zs ze v) sh) End true = [] := by
  constructor
  · simp [offersAt, parked, cs2, scase, rcase, List.zipIdx, Array.zipIdx]
  · simp [offersAt, parked, cs2, scase, rcase, List.zipIdx, Array.zipIdx, hne]
end
section
variable {P : Program} {D : World → World → Array Event → Prop} {Mine : Loc → Prop} {Wg C : Nat} [Shy Wg C] {Low Out End : Nat} {zs ze : Value} {sh : CommShape} {Sel : Value → Goroutine → Prop} {nx : Value → Value} {c p : Nat} {t₀ : Trace}
theorem runNT_step {N : Nat} {m m' : Machine} {t : Trace} {ops : Array MemOp} {x : Stepped × Trace} (hs : stepT P m = (.next m', ops)) (hr : runNT P N m' (t ++ ops) = x) : runNT P (N + 1) m t = x := by
  simp only [runNT, hs]
  exact hr
/-- THE CALLER WALKS: to where the scheduler has picked it at its stop. -/
theorem talk_run (hD : ∀ w w' es, D w w' es → DK Mine Wg C w w' es) (hK : KidOk P Wg Low Out End zs ze sh Sel nx) (hOut : Out < Low) (hEnd : End < Low) {Stop : Goroutine → World → Prop} (hSr : ∀ g w, Stop g w → g.status = .running) :
    ∀ (M m mk : Nat) (gs : Array Goroutine) (a b : Goroutine) (w : World) (sl : Option (Nat × Nat)) (T s : Trace) (q : Nat → Nat) (v : Value), sumTo c q + m + mk ≤ M → Big P c gs a b T q → Tr Mine Wg C c t₀ s T p →
      Kid P D Wg Low Out End zs ze sh Sel mk v b w → Open Out End w → Goes P true AtRel (DPi Mine Wg C Low) Stop m a w →
      ∃ N gs' a' b' w' sl' T' s' q' mk' d sl'', runNT P N (crowd gs w sl) T = (.next (crowd gs' w' sl'), T') ∧ Big P c gs' a' b' T' q' ∧ Tr Mine Wg C c t₀ s' T' p ∧ Kid P D Wg Low Out End zs ze sh Sel mk' v b' (w'.at d) ∧
        Open Out End (w'.at d) ∧ Stop a' (w'.at d) ∧ stepT P (crowd gs' w' sl') = runT P (crowd gs' (w'.at d) sl'') 0 := by
  intro M
  induction M using Nat.strongRecOn with
  | _ M ih =>
    intro m mk gs a b w sl T s q v hM hB hT hk ho hG
    have ra : a.status = .running := hG.running hSr w (atRel_refl w)
    obtain ⟨i, d, sl', hst, hpick⟩ := big_pick hB (awake_of (.inl ra)) (hk.awake hK) (.inl ra) w sl
    have hk' := hk.rely (rk_at w d)
    have ho' : Open Out End (w.at d) := ho.of_heap rfl rfl
    rcases hpick with ⟨rfl, _⟩ | ⟨rfl, rb⟩ | ⟨k, g, g', es, h0, hc, hg, hq, hm, hstp, hq'⟩
    · rcases hG.cases with hstop | ⟨m', rfl, hstep⟩
      · exact ⟨0, gs, a, b, w, sl, T, s, q, mk, d, sl', rfl, hB, hT, hk', ho', hstop _ ⟨d, rfl⟩, hst⟩
      · obtain ⟨a', w', es, hgo, hD, hG'⟩ := hstep (w.at d) ⟨d, rfl⟩
        have hrunT := runT_crowd_go (P := P) (sl := sl') (i := 0) hB.h0 (show stepG P (0 == 0) a (w.at d) = _ from hgo)
        have ho2 : Open Out End w' := ho'.of_heap (hD.1 _ hOut) (hD.1 _ hEnd)
        have hwk := hk'.woken hK ho2 a a'
        obtain ⟨N, r⟩ := ih (sumTo c q + m' + mk) (by omega) m' mk _ a' b w' sl' _ _ q v (Nat.le_refl _) (big_own0 hB hwk a.frame.fn a.frame.place es) (hT.ev0 (big_hc0 hB) hD.2 a.frame.fn a.frame.place)
          (hk'.rely fun j h1 _ _ _ => hD.1 j h1) ho2 hG'
        obtain ⟨gs', a2, b2, w2, sl2, T2, s2, q2, mk2, d2, sl3, r1, r2⟩ := r
        exact ⟨N + 1, gs', a2, b2, w2, sl2, T2, s2, q2, mk2, d2, sl3, runNT_step (hst.trans hrunT) r1, r2⟩
    · rcases hk' with ⟨n, rfl, hg⟩ | ⟨_, g, _, rfl⟩
      · rcases hg.cases with hstop | ⟨n', rfl, hstep⟩
        · have hsel := hstop _ (fun _ _ _ _ _ => rfl : RK Low Out End Wg (w.at d) (w.at d))
          have hi0 : (i == 0) = false := by simp [big_hc0 hB]
          obtain ⟨⟨s1, r1, c1⟩, s2, r2, c2⟩ := ho'
          have hw := crowd_waits (P := P) (sl := sl') hB.hc (by rw [hi0]; exact hK.comm v b hsel (w.at d)) (by
            intro cc hcc
            have hp : ∀ r send, partners (gs.setIfInBounds i ph) r send = [] := fun r send => big_alone hB (.inr (offersAt_of_not_blocked (by rw [ra]; simp) r send)) (.inl rfl)
            simp only [cs2, List.mem_toArray, List.mem_cons, List.not_mem_nil, or_false] at hcc
            rcases hcc with rfl | rfl
            · exact ways_send_none c1 (by simp) (hp _ _)
            · exact ways_recv_none c2 (hp _ _))
          have e0 : ∀ X : Trace, X ++ MemOp.ofEvents i b.frame.fn b.frame.place #[] = X := fun X => by simp [MemOp.ofEvents]
          have hB' : Big P i (gs.setIfInBounds i (parked b (cs2 Out End zs ze v) sh)) a (parked b (cs2 Out End zs ze v) sh) (T ++ #[]) q :=
            big_both hB (by simp) (by simp) (by rw [Array.getElem?_setIfInBounds_ne (big_hc0 hB)]; exact hB.h0) (by simp [big_clt hB]) (fun j _ hj => Array.getElem?_setIfInBounds_ne (by omega))
          rw [Array.append_empty] at hB'
          obtain ⟨N, r⟩ := ih (sumTo i q + m + 0) (by omega) m 0 _ a _ (w.at d) sl' T s q v (Nat.le_refl _) hB' hT (.inr ⟨rfl, b, hsel, rfl⟩) ⟨⟨s1, r1, c1⟩, s2, r2, c2⟩ (Goes.rely atRel_trans hG ⟨d, rfl⟩)
          obtain ⟨gs', a2, b2, w2, sl2, T2, s2, q2, mk2, d2, sl3, r1, r2⟩ := r
          exact ⟨N + 1, gs', a2, b2, w2, sl2, T2, s2, q2, mk2, d2, sl3, runNT_step (hst.trans hw) (by rw [e0]; exact r1), r2⟩
        · obtain ⟨b', w', es, hgo, hDD, hg'⟩ := hstep _ (fun _ _ _ _ _ => rfl : RK Low Out End Wg (w.at d) (w.at d))
          obtain ⟨⟨d2, rfl⟩, hes⟩ := hD _ _ _ hDD
          have hi0 : (i == 0) = false := by simp [big_hc0 hB]
          have hrunT := runT_crowd_go (P := P) (sl := sl') (i := i) hB.hc (by rw [hi0]; exact hgo)
          obtain ⟨N, r⟩ := ih (sumTo i q + m + (n' + 1)) (by omega) m (n' + 1) _ a b' _ sl' _ _ q v (Nat.le_refl _) (big_own1 hB (woken_run ra) b.frame.fn b.frame.place es) (hT.ev1 (big_hc0 hB) hes b.frame.fn b.frame.place)
            (.inl ⟨n', rfl, hg'⟩) (ho'.of_heap rfl rfl) (Goes.rely atRel_trans hG ⟨d2, rfl⟩)
          obtain ⟨gs', a2, b2, w2, sl2, T2, s2, q2, mk2, d2, sl3, r1, r2⟩ := r
          exact ⟨N + 1, gs', a2, b2, w2, sl2, T2, s2, q2, mk2, d2, sl3, runNT_step (hst.trans hrunT) r1, r2⟩
      · cases rb
    · obtain ⟨gs', q', hrunT, hsum, hB'⟩ := big_slip hB h0 hc hg hq hm hstp hq' (w := w.at d) (sl := sl') (woken_run ra) (hk'.woken hK ho' g g')
      obtain ⟨N, r⟩ := ih (sumTo c q' + m + mk) (by omega) m mk _ a b _ sl' _ _ q' v (Nat.le_refl _) hB' (hT.slip h0 hc g.frame.fn g.frame.place hm) hk' ho' (Goes.rely atRel_trans hG ⟨d, rfl⟩)
      obtain ⟨gs', a2, b2, w2, sl2, T2, s2, q2, mk2, d2, sl3, r1, r2⟩ := r
      exact ⟨N + 1, gs', a2, b2, w2, sl2, T2, s2, q2, mk2, d2, sl3, runNT_step (hst.trans hrunT) r1, r2⟩
end
end Go.Proofs.YtnikgcedifdaeaaGreatDoor.Lift
end

section
/- The caller receives what the child offers. On whatever tape. -/
set_option linter.unusedSectionVars false
set_option linter.unusedVariables false
set_option linter.unusedSimpArgs false
namespace Go.Proofs.YtnikgcedifdaeaaGreatDoor.Lift
open Go Go.Conc Go.ConcX
open Go.ConcN (sumTo upd sumTo_upd upd_ne upd_same)
section
variable {P : Program} {D : World → World → Array Event → Prop} {Mine : Loc → Prop} {Wg C : Nat} [Shy Wg C] {Low Out End : Nat} {zs ze : Value} {sh shr : CommShape} {Sel : Value → Goroutine → Prop} {nx : Value → Value} {c p : Nat} {t₀ : Trace} {z : Value}
variable (P Mine Wg C Low Out End zs ze sh Sel nx c p t₀) in
/-- The caller has received: it stands served; the child goes on to its next value; of the world the channel alone has turned. -/
def Served (shr : CommShape) (z : Value) (gs : Array Goroutine) (a : Goroutine) (w : World) (sl : Option (Nat × Nat)) (T : Trace) (v : Value) : Prop :=
  ∃ N gs' b' d s1 r1 sl' T' s' q' mk', runNT P N (crowd gs w sl) T = (.next (crowd gs' ((w.at d).setChan Out 0 #[] false (s1 + 1) (r1 + 1) false) sl'), T') ∧ w.heap[Out]? = some (.chan 0 #[] false s1 r1 false) ∧
    Big P c gs' (a.finishComm P #[rcase Out z] shr 0 v true) b' T' q' ∧ Tr Mine Wg C c t₀ s' T' p ∧ Kid P Dq Wg Low Out End zs ze sh Sel mk' (nx v) b' ((w.at d).setChan Out 0 #[] false (s1 + 1) (r1 + 1) false) ∧
    Open Out End ((w.at d).setChan Out 0 #[] false (s1 + 1) (r1 + 1) false)
theorem heap_setChan (w : World) (c i : Nat) (cap : Nat) (buf : Array Value) (cl : Bool) (s r : Nat) (tm : Bool) : (w.setChan c cap buf cl s r tm).heap[i]? = if i = c then (if c < w.heap.size then some (.chan cap buf cl s r tm) else none) else w.heap[i]? := by
  unfold World.setChan
  simp only [Array.getElem?_setIfInBounds]
  by_cases h : c = i
  · subst h; simp
  · rw [if_neg h, if_neg (Ne.symm h)]
theorem Open.chan {w : World} (h : Open Out End w) (hne : Out ≠ End) (s r : Nat) : Open Out End (w.setChan Out 0 #[] false s r false) := by
  obtain ⟨⟨s1, r1, h1⟩, s2, r2, h2⟩ := h
  refine ⟨⟨s, r, ?_⟩, s2, r2, ?_⟩
  · rw [heap_setChan, if_pos rfl, if_pos (Array.getElem?_eq_some_iff.1 h1).1]
  · rw [heap_setChan, if_neg (Ne.symm hne)]; exact h2
/-- The four operations of a meeting. -/
theorem Tr.meets {s T : Trace} (h : Tr Mine Wg C c t₀ s T p) (hc : c ≠ 0) (o s1 r1 : Nat) (hcm : Shy.ok Wg C (.send o s1) ∧ Shy.ok Wg C (.recv o r1 0) ∧ Shy.ok Wg C (.sendDone o s1) ∧ Shy.ok Wg C (.recvDone o r1)) (f0 f1 : FuncId) (p0 p1 : String) :
    ∃ s', Tr Mine Wg C c t₀ s' (T ++ #[{ g := c, fn := f1, pos := p1, act := .send o s1 }, { g := 0, fn := f0, pos := p0, act := .recv o r1 0 }, { g := c, fn := f1, pos := p1, act := .sendDone o s1 }, { g := 0, fn := f0, pos := p0, act := .recvDone o r1 }]) p := by
  refine ⟨_, h.ops4 hc (o1 := { g := 1, fn := f1, pos := p1, act := .send o s1 }) (o2 := { g := 0, fn := f0, pos := p0, act := .recv o r1 0 }) (o3 := { g := 1, fn := f1, pos := p1, act := .sendDone o s1 }) (o4 := { g := 0, fn := f0, pos := p0, act := .recvDone o r1 }) ?_⟩
  rintro x (rfl | rfl | rfl | rfl)
  · exact ⟨.inr rfl, rfl, hcm.1, by simp⟩
  · exact ⟨.inl rfl, rfl, hcm.2.1, by simp⟩
  · exact ⟨.inr rfl, rfl, hcm.2.2.1, by simp⟩
  · exact ⟨.inl rfl, rfl, hcm.2.2.2, by simp⟩
theorem e0 (X : Trace) (i : Nat) (fn : FuncId) (pos : String) : X ++ MemOp.ofEvents i fn pos #[] = X := by simp [MemOp.ofEvents]
theorem e0' (X : Trace) (i : Nat) (fn : FuncId) (pos : String) : MemOp.ofEvents i fn pos #[] ++ X = X := by simp [MemOp.ofEvents]
/-- It waits; the child comes. -/
theorem talk_wait (hD : ∀ w w' es, D w w' es → DK Mine Wg C w w' es) (hK : KidOk P Wg Low Out End zs ze sh Sel nx) (hne : Out ≠ End) (hcm : ∀ s1 r1, Shy.ok Wg C (.send Out s1) ∧ Shy.ok Wg C (.recv Out r1 0) ∧ Shy.ok Wg C (.sendDone Out s1) ∧ Shy.ok Wg C (.recvDone Out r1)) :
    ∀ (M m : Nat) (gs : Array Goroutine) (a b : Goroutine) (w : World) (sl : Option (Nat × Nat)) (T s : Trace) (q : Nat → Nat) (v : Value), sumTo c q + m ≤ M → Big P c gs (parked a #[rcase Out z] shr) b T q → Tr Mine Wg C c t₀ s T p →
      Goes P false (RK Low Out End Wg) D (fun g _ => Sel v g) m b w → Open Out End w → Served P Mine Wg C Low Out End zs ze sh Sel nx c p t₀ shr z gs a w sl T v := by
  intro M
  induction M using Nat.strongRecOn with
  | _ M ih =>
    intro m gs a b w sl T s q v hM hB hT hG ho
    have rb : b.status = .running := hG.running (fun g _ x => hK.run _ _ x) w (fun _ _ _ _ _ => rfl)
    obtain ⟨i, d, sl', hst, hpick⟩ := big_pick hB (awake_of (.inr (.inl rfl))) (awake_of (.inl rb)) (.inr rb) w sl
    have hG' : Goes P false (RK Low Out End Wg) D (fun g _ => Sel v g) m b (w.at d) := Goes.rely (R := RK Low Out End Wg) (fun _ _ _ h1 h2 => RK.trans h1 h2) hG (rk_at w d)
    obtain ⟨⟨s1, r1, c1⟩, s2, r2, c2⟩ := ho
    have later : ∀ {gs2 : Array Goroutine} {d2 : Nat} {sl2 : Option (Nat × Nat)} {ops : Array MemOp}, stepT P (crowd gs w sl) = (.next (crowd gs2 ((w.at d).at d2) sl2), ops) →
        Served P Mine Wg C Low Out End zs ze sh Sel nx c p t₀ shr z gs2 a ((w.at d).at d2) sl2 (T ++ ops) v → Served P Mine Wg C Low Out End zs ze sh Sel nx c p t₀ shr z gs a w sl T v := by
      rintro gs2 d2 sl2 ops hstep ⟨N, gs', b', d', s1, r1, sl', T', s', q', mk', hr, h⟩
      exact ⟨N + 1, gs', b', d', s1, r1, sl', T', s', q', mk', runNT_step hstep hr, h⟩
    rcases hpick with ⟨rfl, ra⟩ | ⟨rfl, _⟩ | ⟨k, g, g', es, h0, hc, hg, hq, hm, hstp, hq'⟩
    · cases ra
    · have hc0 := big_hc0 hB
      have hi0 : (i == 0) = false := by simp [hc0]
      rcases hG'.cases with hstop | ⟨n', rfl, hstep⟩
      · have hsel := hstop _ (fun _ _ _ _ _ => rfl : RK Low Out End Wg (w.at d) (w.at d))
        have hp : partners (gs.setIfInBounds i ph) Out false = [(0, 0)] := by
          have hj : (gs.setIfInBounds i ph)[0]? = some (parked a #[rcase Out z] shr) := by rw [Array.getElem?_setIfInBounds_ne hc0]; exact hB.h0
          rw [partners_one hj (fun j g hj0 hg => by
            rcases getElem?_stand gs i j g hg with ⟨_, rfl⟩ | ⟨hji, hg'⟩
            · rfl
            · exact big_nobody hB hg' hj0 hji _ _), offersAt_parked_recv, if_pos rfl]
          rfl
        have hw := sel_send_meets (P := P) (sl := sl') (k := 0) hB.hc (w := w.at d) (w₁ := w.at d) (by rw [hi0]; exact hK.comm v b hsel (w.at d)) (show (cs2 Out End zs ze v)[0]? = some (scase Out v zs) from rfl) (by
            intro m' c' hm' hc'
            have : m' = 1 := by
              have h2 : m' < 2 := (Array.getElem?_eq_some_iff.1 hc').1
              omega
            subst this
            obtain rfl : rcase End ze = c' := by simpa [cs2] using hc'
            exact ways_recv_none c2 (big_alone hB (.inr (offersAt_parked_recv' _ _ _ _ _)) (.inl rfl))) c1 (Ne.symm hc0) hB.h0 hp
        obtain ⟨s', hT'⟩ := hT.meets (big_hc0 hB) Out s1 r1 (hcm s1 r1) a.frame.fn b.frame.fn a.frame.place b.frame.place
        obtain ⟨m2, hG2⟩ := hK.next v b hsel ((w.at d).setChan Out 0 #[] false (s1 + 1) (r1 + 1) false)
        rw [e0'] at hw
        refine ⟨1, _, _, d, s1, r1, sl', _, s', q, m2 + 1, by simp only [runNT, hst, hw]; rfl, c1, big_both hB (by simp) (by simp) ?_ ?_ ?_, hT', .inl ⟨m2, rfl, hG2⟩, Open.chan ⟨⟨s1, r1, c1⟩, s2, r2, c2⟩ hne _ _⟩
        · rw [Array.getElem?_setIfInBounds_ne hc0]
          simp [hB.size]
        · simp [hB.size]
        · intro j h1 h2
          rw [Array.getElem?_setIfInBounds_ne (by omega), Array.getElem?_setIfInBounds_ne (by omega)]
      · obtain ⟨b', w', es, hgo, hDD, hg'⟩ := hstep _ (fun _ _ _ _ _ => rfl : RK Low Out End Wg (w.at d) (w.at d))
        obtain ⟨⟨d2, rfl⟩, hes⟩ := hD _ _ _ hDD
        have hrunT := runT_crowd_go (P := P) (sl := sl') (i := i) hB.hc (by rw [hi0]; exact hgo)
        exact later (hst.trans hrunT) (ih (sumTo i q + n') (by omega) n' _ a b' _ sl' _ _ q v (Nat.le_refl _) (big_own1 hB (woken_recv_open _ _ (w := (w.at d).at d2) c1) b.frame.fn b.frame.place es) (hT.ev1 hc0 hes b.frame.fn b.frame.place) hg' ⟨⟨s1, r1, c1⟩, s2, r2, c2⟩)
    · obtain ⟨gs', q', hrunT, hsum, hB'⟩ := big_slip hB h0 hc hg hq hm hstp hq' (w := w.at d) (sl := sl') (woken_recv_open _ _ (w := w.at d) c1) (woken_run rb)
      exact later (d2 := d) (hst.trans hrunT) (ih (sumTo c q' + m) (by omega) m _ a b _ sl' _ _ q' v (Nat.le_refl _) hB' (hT.slip h0 hc g.frame.fn g.frame.place hm) hG' ⟨⟨s1, r1, c1⟩, s2, r2, c2⟩)
/-- THE CALLER, picked at its receive, receives. -/
theorem talk_recv (hD : ∀ w w' es, D w w' es → DK Mine Wg C w w' es) (hK : KidOk P Wg Low Out End zs ze sh Sel nx) (hne : Out ≠ End) (hcm : ∀ s1 r1, Shy.ok Wg C (.send Out s1) ∧ Shy.ok Wg C (.recv Out r1 0) ∧ Shy.ok Wg C (.sendDone Out s1) ∧ Shy.ok Wg C (.recvDone Out r1))
    {mk : Nat} {gs : Array Goroutine} {a b : Goroutine} {w : World} {sl sl' : Option (Nat × Nat)} {d : Nat} {T s : Trace} {q : Nat → Nat} {v : Value} (hB : Big P c gs a b T q) (hT : Tr Mine Wg C c t₀ s T p)
    (hk : Kid P D Wg Low Out End zs ze sh Sel mk v b (w.at d)) (ho : Open Out End (w.at d)) (hst : stepT P (crowd gs w sl) = runT P (crowd gs (w.at d) sl') 0) (ra : a.status = .running)
    (hcomm : ∀ w, stepG P true a w = .comm a #[rcase Out z] true shr w #[]) : Served P Mine Wg C Low Out End zs ze sh Sel nx c p t₀ shr z gs a w sl T v := by
  have hc0 := big_hc0 hB
  obtain ⟨⟨s1, r1, c1⟩, s2, r2, c2⟩ := ho
  have hlt : 0 < gs.size := by rw [hB.size]; exact Nat.succ_pos c
  rcases hk with ⟨m, rfl, hG⟩ | ⟨_, g, hsel, rfl⟩
  · have rb : b.status = .running := hG.running (fun g _ x => hK.run _ _ x) _ (fun _ _ _ _ _ => rfl)
    have hw := crowd_waits (P := P) (sl := sl') (i := 0) hB.h0 (show stepG P (0 == 0) a (w.at d) = _ from hcomm _) (by
      intro cc hcc
      obtain rfl : cc = rcase Out z := by simpa using hcc
      exact ways_recv_none c1 (big_alone hB (.inl rfl) (.inr (offersAt_of_not_blocked (by rw [rb]; simp) _ _))))
    rw [show MemOp.ofEvents 0 a.frame.fn a.frame.place #[] = #[] by simp [MemOp.ofEvents]] at hw
    have hB' : Big P c (gs.setIfInBounds 0 (parked a #[rcase Out z] shr)) (parked a #[rcase Out z] shr) b (T ++ #[]) q :=
      big_both hB (by simp) (by simp) (by simp [hlt]) (by rw [Array.getElem?_setIfInBounds_ne (Ne.symm hc0)]; exact hB.hc) (fun j hj _ => Array.getElem?_setIfInBounds_ne (by omega))
    rw [Array.append_empty] at hB'
    obtain ⟨N, gs', b', d', s1', r1', sl2, T', s', q', mk', hr, hrest⟩ := talk_wait hD hK hne hcm _ m _ a b (w.at d) sl' T s q v (Nat.le_refl _) hB' hT hG ⟨⟨s1, r1, c1⟩, s2, r2, c2⟩
    exact ⟨N + 1, gs', b', d', s1', r1', sl2, T', s', q', mk', runNT_step (hst.trans hw) (by rw [Array.append_empty]; exact hr), hrest⟩
  · have hp : partners (gs.setIfInBounds 0 ph) Out true = [(c, 0)] := by
      have hj : (gs.setIfInBounds 0 ph)[c]? = some (parked g (cs2 Out End zs ze v) sh) := by rw [Array.getElem?_setIfInBounds_ne (Ne.symm hc0)]; exact hB.hc
      rw [partners_one hj (fun j g hj0 hg => by
        rcases getElem?_stand gs 0 j g hg with ⟨_, rfl⟩ | ⟨hji, hg'⟩
        · rfl
        · exact big_nobody hB hg' hji hj0 _ _), (offers_cs2 hne).1]
      rfl
    have hw := recv_meets_sel (P := P) (sl := sl') (i := 0) (k := 0) hB.h0 (show stepG P (0 == 0) a (w.at d) = _ from hcomm _) c1 hc0 hB.hc (show (cs2 Out End zs ze v)[0]? = some (scase Out v zs) from rfl) hp
    obtain ⟨s', hT'⟩ := hT.meets hc0 Out s1 r1 (hcm s1 r1) a.frame.fn g.frame.fn a.frame.place g.frame.place
    obtain ⟨m2, hG2⟩ := hK.next v g hsel ((w.at d).setChan Out 0 #[] false (s1 + 1) (r1 + 1) false)
    rw [e0'] at hw
    refine ⟨1, _, _, d, s1, r1, sl', _, s', q, m2 + 1, by simp only [runNT, hst, hw]; rfl, c1, big_both hB (by simp) (by simp) ?_ ?_ ?_, hT', .inl ⟨m2, rfl, hG2⟩, Open.chan ⟨⟨s1, r1, c1⟩, s2, r2, c2⟩ hne _ _⟩
    · simp [hlt]
    · rw [Array.getElem?_setIfInBounds_ne (Ne.symm hc0)]
      simp [hB.size]
    · intro j h1 h2
      rw [Array.getElem?_setIfInBounds_ne (by omega), Array.getElem?_setIfInBounds_ne (by omega)]
end
end Go.Proofs.YtnikgcedifdaeaaGreatDoor.Lift
end

section
/- Behind close(end): the caller runs ahead into Wait; the child comes to its select and takes the closed case: from there the kit's ghost. -/
set_option linter.unusedSectionVars false
set_option linter.unusedVariables false
set_option linter.unusedSimpArgs false
namespace Go.Proofs.YtnikgcedifdaeaaGreatDoor.Lift
open Go Go.Conc Go.ConcX
open Go.ConcN (sumTo upd sumTo_upd upd_ne upd_same)
variable [Payload]
def Shut (Out End : Nat) (w : World) : Prop := (∃ s r, w.heap[Out]? = some (.chan 0 #[] false s r false)) ∧ ∃ s r, w.heap[End]? = some (.chan 0 #[] true s r false)
theorem Shut.of_heap {Out End : Nat} {w w' : World} (h : Shut Out End w) (e1 : w'.heap[Out]? = w.heap[Out]?) (e2 : w'.heap[End]? = w.heap[End]?) : Shut Out End w' := by
  obtain ⟨⟨s, r, h1⟩, s', r', h2⟩ := h
  exact ⟨⟨s, r, e1.trans h1⟩, s', r', e2.trans h2⟩
section
variable (P : Program) (ty : TypeId) (Mine : Loc → Prop) (Wg C : Nat) [Shy Wg C] (Low Out End : Nat) (zs ze : Value) (sh : CommShape) (Sel : Value → Goroutine → Prop) (vals : List Value) (AnchW : Goroutine → World → Prop) (Post : Value → World → Prop)
/-- The child behind the closing: on its way to its select, or let try again there. -/
def Lags (mk : Nat) (v : Value) (b : Goroutine) (w : World) : Prop :=
  (∃ m, mk = m + 1 ∧ Goes P false (RK Low Out End Wg) Dq (fun g _ => Sel v g) m b w) ∨ (mk = 0 ∧ ∃ g, Sel v g ∧ b = { parked g (cs2 Out End zs ze v) sh with status := .running })
/-- The caller on its way through Wait. -/
inductive Cal : Int → Nat → Nat × Nat → Goroutine → World → Prop
  | a {rp d0 mp : Nat} {a : Goroutine} {w : World} : PA P ty Wg C Low vals Mine AnchW Post rp d0 mp a w → Cal KK d0 (rp + 2, mp) a w
  | b {rp mp : Nat} {a : Goroutine} {w : World} : PB P ty Wg C Low vals Mine Post rp mp a w → Cal (KK + 1) 1 (rp, mp) a w
/-- The child that has seen the closing goes to its release. -/
def Finishes : Prop := ∀ v g, Sel v g → ∀ w, KCa ty Wg w ∧ Full C vals w → ∃ m, Goes P false (RCa ty Wg Low) (DCs Mine Wg C) (AtR0 P ty Wg C Low vals) m (g.finishComm P (cs2 Out End zs ze v) sh 1 ze false) w
end
section
variable {P : Program} {ty : TypeId} {Mine : Loc → Prop} {Wg C : Nat} [Shy Wg C] {Low Out End : Nat} {zs ze : Value} {sh : CommShape} {Sel : Value → Goroutine → Prop} {nx : Value → Value} {vals : List Value} {AnchW : Goroutine → World → Prop} {Post : Value → World → Prop} {c p : Nat} {t₀ : Trace}
theorem Lags.running {mk : Nat} {v : Value} {b : Goroutine} {w : World} (hK : KidOk P Wg Low Out End zs ze sh Sel nx) (h : Lags P Wg Low Out End zs ze sh Sel mk v b w) : b.status = .running := by
  rcases h with ⟨m, _, hg⟩ | ⟨_, g, _, rfl⟩
  · exact hg.running (fun g _ x => hK.run _ _ x) w (fun _ _ _ _ _ => rfl)
  · rfl
theorem Lags.rely {mk : Nat} {v : Value} {b : Goroutine} {w w₁ : World} (h : Lags P Wg Low Out End zs ze sh Sel mk v b w) (hr : RK Low Out End Wg w w₁) : Lags P Wg Low Out End zs ze sh Sel mk v b w₁ :=
  h.imp (fun ⟨m, e, hg⟩ => ⟨m, e, Goes.rely (R := RK Low Out End Wg) (fun _ _ _ h1 h2 => RK.trans h1 h2) hg hr⟩) id
theorem Cal.at {st : Int} {d0 : Nat} {μ : Nat × Nat} {a : Goroutine} {w : World} (h : Cal P ty Mine Wg C Low vals AnchW Post st d0 μ a w) (d : Nat) : Cal P ty Mine Wg C Low vals AnchW Post st d0 μ a (w.at d) := by
  cases h with
  | a h => exact .a (h.rely (RPa.at w d))
  | b h => exact .b (h.rely (RPb.at w d))
theorem Cal.woken (hAr : ∀ g w, AnchW g w → g.status = .running) {st : Int} {d0 : Nat} {μ : Nat × Nat} {a : Goroutine} {w : World} (h : Cal P ty Mine Wg C Low vals AnchW Post st d0 μ a w) (g g' : Goroutine) : ∃ μ', Cal P ty Mine Wg C Low vals AnchW Post st d0 μ' (woken P g g' w a) w := by
  cases h with
  | a h => rw [woken_run (h.running hAr)]; exact ⟨_, .a h⟩
  | b h =>
    obtain ⟨r', m', h'⟩ := h.woken (b := g) (b' := g')
    exact ⟨_, .b h'⟩
theorem Cal.quiet (hAr : ∀ g w, AnchW g w → g.status = .running) {st : Int} {d0 : Nat} {μ : Nat × Nat} {a : Goroutine} {w : World} (h : Cal P ty Mine Wg C Low vals AnchW Post st d0 μ a w) : awake a ∧ ∀ r s, offersAt a r s = [] := by
  cases h with
  | a h =>
    have := h.running hAr
    exact ⟨awake_of (.inl this), fun r s => offersAt_of_not_blocked (by rw [this]; simp) r s⟩
  | b h =>
    rcases h.status with ⟨_, e⟩ | ⟨_, e, e2⟩
    · exact ⟨awake_of (.inl e), fun r s => offersAt_of_not_blocked (by rw [e]; simp) r s⟩
    · exact ⟨awake_of (.inr (.inl e)), fun r s => by unfold offersAt; rw [e, e2]⟩
/-- A step of the caller's. -/
theorem Cal.move (hW : Wg < Low) (hC : C < Low) (hCW : C ≠ Wg) (hAn : ∀ g w, AnchW g w → ∃ m, Goes P true (RPa ty Wg C vals) (DPi Mine Wg C Low) (AtW1 P ty Wg C Low vals Mine AnchW Post) m g w)
    {st : Int} {d0 : Nat} {μ : Nat × Nat} {a b : Goroutine} {w : World} {s : Trace} (hB : Base Mine ty Wg C vals.length st 0 vals.toArray false vals.length 0 d0 0 false w s p)
    (h : Cal P ty Mine Wg C Low vals AnchW Post st d0 μ a w) (hr : a.status = .running) :
    ∃ a' w' es st' d0' μ', stepG P true a w = .go a' w' es ∧ Lt2 μ' μ ∧ Base Mine ty Wg C vals.length st' 0 vals.toArray false vals.length 0 d0' 0 false w' (s ++ MemOp.ofEvents 0 a.frame.fn a.frame.place es) p ∧ Cal P ty Mine Wg C Low vals AnchW Post st' d0' μ' a' w' ∧
      ∀ b, b < Low → b ≠ Wg → w'.heap[b]? = w.heap[b]? := by
  cases h with
  | @a rp _ mp _ _ h =>
    obtain ⟨a', w', ops, hrun, hrc, hout⟩ := PA.moveA hW hC hCW hAn (b := b) (sl := none) hB h
    rw [duo_eq_crowd] at hrun
    obtain ⟨g0, g', w2, es, hg0, hgo, hm, rfl⟩ := runTX_next hrun
    obtain rfl : g0 = a := by simpa using hg0.symm
    have em : crowd ((#[g0, b].map (Go.Conc.woken P g0 g' w2)).setIfInBounds 0 g') w2 none = duo g' (Go.Conc.woken P g0 g' w2 b) w2 none := by simp [crowd, duo]
    rw [em] at hm
    obtain ⟨rfl, _, rfl, _⟩ := duo_inj hm
    cases hout with
    | stay rp' d0' mp' hl hB' hp' => exact ⟨_, _, es, KK, d0', _, hgo, lt2_shift 2 hl, hB', .a hp', hrc.low⟩
    | reg mp' hB' hp' => exact ⟨_, _, es, KK + 1, 1, _, hgo, .left _ _ (by omega), hB', .b hp', hrc.low⟩
  | @b rp mp _ _ h =>
    obtain rfl : rp = 1 := h.status.elim (fun x => x.1) (fun x => by rw [x.2.1] at hr; cases hr)
    obtain ⟨a', w', ops, hrun, hrc, rp', mp', hl, hB', hp'⟩ := PB.move0 hW hC (b := b) (sl := none) hB h
    rw [duo_eq_crowd] at hrun
    obtain ⟨g0, g', w2, es, hg0, hgo, hm, rfl⟩ := runTX_next hrun
    obtain rfl : g0 = a := by simpa using hg0.symm
    have em : crowd ((#[g0, b].map (Go.Conc.woken P g0 g' w2)).setIfInBounds 0 g') w2 none = duo g' (Go.Conc.woken P g0 g' w2 b) w2 none := by simp [crowd, duo]
    rw [em] at hm
    obtain ⟨rfl, _, rfl, _⟩ := duo_inj hm
    exact ⟨_, _, es, KK + 1, 1, _, hgo, hl, hB', .b hp', fun b h1 _ => hrc b h1⟩
abbrev LtL : Nat × (Nat × Nat) → Nat × (Nat × Nat) → Prop := Prod.Lex (· < ·) Lt2
theorem ltL_wf : WellFounded LtL := (Prod.lex Nat.lt_wfRel (Prod.lex Nat.lt_wfRel Nat.lt_wfRel)).wf
theorem tries_self {g : Goroutine} (h : g.status = .running) (cs : Array CommCase) (w : World) : stepG P false { parked g cs sh with status := .running } w = stepG P false g w := by
  rw [stepG_tries]
  obtain ⟨a, b, s, d, o⟩ := g
  cases h
  rfl
/-- ON WHATEVER TAPE the child comes to its release's way: the kit's invariant. -/
theorem lag (hK : KidOk P Wg Low Out End zs ze sh Sel nx) (hF : Finishes P ty Mine Wg C Low Out End zs ze sh Sel vals) (hW : Wg < Low) (hC : C < Low) (hCW : C ≠ Wg) (hOut : Out < Low) (hEnd : End < Low) (hOW : Out ≠ Wg) (hEW : End ≠ Wg)
    (hcm : Shy.ok Wg C (.recvClosed End)) (hAr : ∀ g w, AnchW g w → g.status = .running) (hAn : ∀ g w, AnchW g w → ∃ m, Goes P true (RPa ty Wg C vals) (DPi Mine Wg C Low) (AtW1 P ty Wg C Low vals Mine AnchW Post) m g w) :
    ∀ (μ : Nat × (Nat × Nat)) (mk d0 : Nat) (st : Int) (gs : Array Goroutine) (a b : Goroutine) (w : World) (sl : Option (Nat × Nat)) (T s : Trace) (q : Nat → Nat) (v : Value), sumTo c q + mk = μ.1 → Big P c gs a b T q → Linked c t₀ s T →
      Base Mine ty Wg C vals.length st 0 vals.toArray false vals.length 0 d0 0 false w s p → Cal P ty Mine Wg C Low vals AnchW Post st d0 μ.2 a w → Lags P Wg Low Out End zs ze sh Sel mk v b w → Shut Out End w → Full C vals w →
      ∃ N M' T' μ', runNT P N (crowd gs w sl) T = (.next M', T') ∧ GInv P ty Wg C Low vals Mine AnchW Post c t₀ μ' M' T' := by
  intro μ
  induction μ using ltL_wf.induction with
  | _ μ ih =>
    intro mk d0 st gs a b w sl T s q v hμ hB hL hBase hcal hk ho hFull
    obtain ⟨n0, μ2⟩ := μ
    simp only at hμ hcal
    have rb := hk.running hK
    obtain ⟨qa, qo⟩ := hcal.quiet hAr
    have hc0 := big_hc0 hB
    obtain ⟨i, d, sl', hst, hpick⟩ := big_pick hB qa (awake_of (.inl rb)) (.inr rb) w sl
    have hk' := hk.rely (rk_at w d)
    have hcal' := hcal.at d
    have hBase' := hBase.at d
    have later : ∀ {m' : Machine} {ops : Array MemOp}, stepT P (crowd gs w sl) = (.next m', ops) → (∃ N M' T' μ', runNT P N m' (T ++ ops) = (.next M', T') ∧ GInv P ty Wg C Low vals Mine AnchW Post c t₀ μ' M' T') →
        ∃ N M' T' μ', runNT P N (crowd gs w sl) T = (.next M', T') ∧ GInv P ty Wg C Low vals Mine AnchW Post c t₀ μ' M' T' := by
      rintro m' ops hs ⟨N, M', T', μ', hr, hg⟩
      exact ⟨N + 1, M', T', μ', runNT_step hs hr, hg⟩
    rcases hpick with ⟨rfl, ra⟩ | ⟨rfl, _⟩ | ⟨k, g, g', es, h0, hc, hg, hq, hm, hstp, hq'⟩
    · obtain ⟨a', w', es, st', d0', μ', hgo, hlt, hBase2, hcal2, hlow⟩ := hcal'.move hW hC hCW hAn (b := b) hBase' ra
      have hrunT := runT_crowd_go (P := P) (sl := sl') (i := 0) hB.h0 (show stepG P (0 == 0) a (w.at d) = _ from hgo)
      refine later (hst.trans hrunT) (ih (n0, μ') (.right _ hlt) mk d0' st' _ a' b w' sl' _ _ q v hμ (big_own0 hB (woken_run rb) a.frame.fn a.frame.place es) (hL.events hc0 (.inl rfl) _ _ es) hBase2 hcal2 ?_ ?_ ?_)
      · exact hk'.rely fun j h1 _ _ hj => hlow j h1 hj
      · exact ho.of_heap (hlow _ hOut hOW) (hlow _ hEnd hEW)
      · exact ChanAt.of_block hFull (hlow _ hC hCW)
    · have hi0 : (i == 0) = false := by simp [hc0]
      -- the child takes the closed case
      have take : ∀ g, Sel v g → (∀ w, stepG P false b w = .comm g (cs2 Out End zs ze v) true sh w #[]) → b.frame = g.frame → ∃ N M' T' μ', runNT P N (crowd gs w sl) T = (.next M', T') ∧ GInv P ty Wg C Low vals Mine AnchW Post i t₀ μ' M' T' := by
        intro g hsel hcomm hfr
        obtain ⟨⟨s1, r1, c1⟩, s2, r2, c2⟩ := ho
        have hp : ∀ r send, partners (gs.setIfInBounds i ph) r send = [] := fun r send => big_alone hB (.inr (qo r send)) (.inl rfl)
        have hw := sel_closed (P := P) (sl := sl') (k := 1) hB.hc (w := w.at d) (w₁ := w.at d) (by rw [hi0]; exact hcomm _) (show (cs2 Out End zs ze v)[1]? = some (rcase End ze) from rfl) (by
            intro m' c' hm' hc'
            have : m' = 0 := by
              have h2 : m' < 2 := (Array.getElem?_eq_some_iff.1 hc').1
              omega
            subst this
            obtain rfl : scase Out v zs = c' := by simpa [cs2] using hc'
            exact ways_send_none c1 (by simp) (hp _ _)) c2 (hp _ _)
        rw [e0'] at hw
        have hkca : KCa ty Wg (w.at d) := by
          cases hcal' with
          | a _ => exact .inl hBase'.wg
          | b _ => exact .inr hBase'.wg
        obtain ⟨mc, hG⟩ := hF v g hsel (w.at d) ⟨hkca, hFull⟩
        have hL' := hL.boths hc0 [{ g := 1, fn := g.frame.fn, pos := g.frame.place, act := .recvClosed End }] (by simp)
        have hJT : Base Mine ty Wg C vals.length st 0 vals.toArray false vals.length 0 d0 0 false (w.at d) (s ++ #[({ g := 1, fn := g.frame.fn, pos := g.frame.place, act := .recvClosed End } : MemOp)]) p := by
          refine ⟨hBase'.wg, hBase'.ch, hBase'.jt.app (.inr rfl) (fun op hop => ?_) (fun _ => .inr (hBase'.noacq rfl)), by rw [Deaf_push, deafStep_plain (by simp), hBase'.deaf0], by rw [Deaf_push, deafStep_plain (by simp), hBase'.deaf1], fun _ => (hBase'.noacq rfl).app (fun op hop => ?_), fun e => by cases e⟩
          · obtain rfl : op = _ := by simpa using hop
            exact okOp_still rfl (by simp) hcm
          · obtain rfl : op = _ := by simpa using hop
            simp
        have hB' : Big P i (gs.setIfInBounds i (g.finishComm P (cs2 Out End zs ze v) sh 1 ze false)) a (g.finishComm P (cs2 Out End zs ze v) sh 1 ze false) (T ++ #[({ g := i, fn := g.frame.fn, pos := g.frame.place, act := .recvClosed End } : MemOp)]) q :=
          big_both hB (by simp) (by simp) (by rw [Array.getElem?_setIfInBounds_ne hc0]; exact hB.h0) (by simp [big_clt hB]) (fun j _ hj => Array.getElem?_setIfInBounds_ne (by omega))
        have hJ : ∃ μs, JInv P ty Wg C Low vals Mine AnchW Post μs (duo a (g.finishComm P (cs2 Out End zs ze v) sh 1 ze false) (w.at d) none) (s ++ #[({ g := 1, fn := g.frame.fn, pos := g.frame.place, act := .recvClosed End } : MemOp)]) := by
          cases hcal' with
          | a hp' => exact ⟨_, .a _ _ _ _ _ _ _ 0 7 mc _ _ false false vals [] (by simp) hJT hp' (.r0 hG)⟩
          | b hp' => exact ⟨_, .b _ _ _ _ _ _ 0 7 mc _ _ false false vals [] (by simp) hJT hp' (.r0 hG)⟩
        obtain ⟨μs, hJ⟩ := hJ
        exact ⟨1, _, _, (sumTo i q, μs), by simp only [runNT, hst, hw]; rfl, _, a, _, w.at d, sl', _, q, μs, rfl, hB', hJ, hL', rfl⟩
      rcases hk' with ⟨n, rfl, hg⟩ | ⟨_, g, hsel, rfl⟩
      · rcases hg.cases with hstop | ⟨n', rfl, hstep⟩
        · have hsel := hstop _ (fun _ _ _ _ _ => rfl : RK Low Out End Wg (w.at d) (w.at d))
          exact take b hsel (hK.comm v b hsel) rfl
        · obtain ⟨b', w', es, hgo, hDD, hg'⟩ := hstep _ (fun _ _ _ _ _ => rfl : RK Low Out End Wg (w.at d) (w.at d))
          obtain ⟨⟨d2, rfl⟩, hes⟩ := hDD.dk (Mine := Mine) (Wg := Wg) (C := C)
          have hrunT := runT_crowd_go (P := P) (sl := sl') (i := i) hB.hc (by rw [hi0]; exact hgo)
          obtain ⟨μ', hcal2⟩ := (hcal'.at d2).woken hAr b b'
          refine later (hst.trans hrunT) (ih (sumTo i q + (n' + 1), μ') (.left _ _ (by omega)) (n' + 1) d0 st _ _ b' ((w.at d).at d2) sl' _ _ q v rfl (big_own1 hB rfl b.frame.fn b.frame.place es) (hL.events hc0 (.inr rfl) _ _ es) ?_ hcal2 (.inl ⟨n', rfl, hg'⟩) (ho.of_heap rfl rfl) hFull)
          exact (hBase'.at d2).step1 _ _ hes (hBase'.at d2).wg (hBase'.at d2).ch
      · exact take g hsel (fun w => by rw [tries_self (hK.run _ _ hsel)]; exact hK.comm v g hsel w) rfl
    · obtain ⟨gs', q', hrunT, hsum, hB'⟩ := big_slip hB h0 hc hg hq hm hstp hq' (w := w.at d) (sl := sl') rfl (woken_run rb)
      obtain ⟨μ', hcal2⟩ := hcal'.woken hAr g g'
      exact later (hst.trans hrunT) (ih (sumTo c q' + mk, μ') (.left _ _ (by omega)) mk d0 st _ _ b _ sl' _ s q' v rfl hB' (hL.mutes (by omega) (by omega) _ _ hm) hBase' hcal2 hk' (ho.of_heap rfl rfl) hFull)
end
end Go.Proofs.YtnikgcedifdaeaaGreatDoor.Lift
end
