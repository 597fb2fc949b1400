/- Texts of the proof, joined by a program (part 3): contracts of functions, plain laws. -/
import Derived.Test.YtnikgcedifdaeaaGreatDoorJX2
import Derived.Conc.Events
import Derived.Conc.Beside
import GoSem.Dispatch
set_option linter.unusedVariables false
set_option linter.unusedSimpArgs false
set_option linter.unusedSectionVars false
section
/- Calls without traces: what a run on what is known answers, told of every world; a store of such answers. Plain. -/
namespace Go.Proofs.YtnikgcedifdaeaaGreatDoor.Ab
open Go
noncomputable section
/-- No row that may be written. -/
def noRw : Tr AO → Bool
  | .leaf => true
  | .node l v r => (match v with | none => true | some o => !o.rw) && noRw l && noRw r
theorem noRw_get : ∀ (t : Tr AO) (n : Nat) (o : AO), noRw t = true → t.get n = some o → o.rw = false
  | .leaf, n, o, _, h => by rw [Tr.get_leaf] at h; cases h
  | .node l v r, n, o, hn, h => by
    simp only [noRw, Bool.and_eq_true] at hn
    rw [Tr.get_node] at h
    split at h
    · subst h
      simpa using hn.1.1
    · split at h
      · exact noRw_get l _ _ hn.1.2 h
      · exact noRw_get r _ _ hn.2 h
theorem same_of_adv {Γ Γ' : Gam} {A A' : AH} {w w' : World} (h : Adv Γ A w Γ' A' w') (_ : HR Γ A w) (hW : Γ.W = w) (hn : noRw A.h = true) : Same w w' := by
  refine ⟨fun c hc => h.keep c hc fun ⟨b, s, o, h1, h2, h3⟩ => ?_, h.size, ?_, ?_, ?_, ?_⟩
  · rw [noRw_get _ _ _ hn h2] at h3; cases h3
  · rw [h.hr.tape, h.le.W, hW]
  · rw [h.hr.os, h.le.W, hW]
  · rw [h.hr.output, h.le.W, hW]
  · have := h.hr.drawn
    rw [h.le.W, hW] at this
    exact this
/-- What the calls are told of the world: it hangs on the elder blocks alone. -/
structure Known (G : World → Prop) : Prop where
  keep : ∀ W w : World, G W → W.heap.size ≤ w.heap.size → (∀ c, c < W.heap.size → w.heap[c]? = W.heap[c]?) → G w
/-- Arguments that are scalars. -/
def flat : List AV → Bool
  | [] => true
  | a :: r => bif scalar a then flat r else false
theorem flat_get : ∀ (l : List AV) (i : Nat) (a : AV), flat l = true → l[i]? = some a → scalar a = true
  | [], i, a, _, h => by simp at h
  | b :: r, i, a, hf, h => by
    unfold flat at hf
    cases hb : scalar b with
    | false => rw [hb] at hf; cases hf
    | true =>
      rw [hb] at hf
      cases i with
      | zero => simp only [List.getElem?_cons_zero, Option.some.injEq] at h; rw [← h]; exact hb
      | succ i => simp only [List.getElem?_cons_succ] at h; exact flat_get r i a hf h
theorem VRs.flat {Γ Γ' : Gam} (hρ : Γ.ρ = Γ'.ρ) {l : List AV} {m : List Value} (hf : flat l = true) (h : VRs Γ' l m) : VRs Γ l m := ⟨h.len, fun i a v ha hv => scalar_ok hρ (flat_get l i a hf ha) (h.at_ i a v ha hv)⟩
/-- A call answers so, whatever the world, and leaves no trace. -/
structure Ans (P : Program) (G : World → Prop) (ρ : Nat → Int) (f : Nat) (l : List AV) (r : AV) : Prop where
  has : ∃ fn c, P.funcs[f]? = some fn ∧ (fn.name == "runtime.NumGoroutine") = false ∧ fn.body = some c
  sc : scalar r = true
  fl : flat l = true
  calls : ∀ (w : World) (vs : Array Value), G w → VRs ⟨ρ, fun _ => none, w⟩ l vs.toList → Calls P f vs w fun e w' => ∃ v, e = .returned v ∧ VR ⟨ρ, fun _ => none, w⟩ r v ∧ Same w w'
def sameTs : List (Nat × Int) → List (Nat × Int) → Bool
  | [], [] => true
  | (x, k) :: r, (y, m) :: s => bif natIs x y then (bif zero (k - m) then sameTs r s else false) else false
  | _, _ => false
theorem sameTs_eq : ∀ {a b : List (Nat × Int)}, sameTs a b = true → a = b
  | [], [], _ => rfl
  | (x, k) :: r, (y, m) :: s, h => by
    unfold sameTs at h
    cases h1 : natIs x y with
    | false => rw [h1] at h; cases h
    | true =>
      rw [h1] at h
      cases h2 : zero (k - m) with
      | false => rw [h2] at h; cases h
      | true =>
        rw [h2] at h
        have := (zero_iff _).1 h2
        rw [natIs_eq h1, sameTs_eq h, show k = m by omega]
  | [], _ :: _, h => by cases h
  | _ :: _, [], h => by cases h
def Lin.same (a b : Lin) : Bool := bif zero (a.c - b.c) then sameTs a.ts b.ts else false
theorem Lin.same_eq {a b : Lin} (h : a.same b = true) : a = b := by
  unfold Lin.same at h
  cases h1 : zero (a.c - b.c) with
  | false => rw [h1] at h; cases h
  | true =>
    rw [h1] at h
    have := (zero_iff _).1 h1
    obtain ⟨ac, at_⟩ := a
    obtain ⟨bc, bt⟩ := b
    have e := sameTs_eq h
    simp only at e this
    rw [e, show ac = bc by omega]
/-- (Of whole numbers, truth values and rows of them.) -/
def same0 : AV → AV → Bool
  | .bool a, .bool b => a == b
  | .int k a, .int m b => bif IntKind.same k m then a.same b else false
  | .str a, .str b => eqBytes a b
  | .any, .any => true
  | .one, .one => true
  | .tok i, .tok j => natIs i j
  | .nilslice, .nilslice => true
  | _, _ => false
theorem same0_eq {a b : AV} (h : same0 a b = true) : a = b := by
  unfold same0 at h
  split at h
  · rw [beq_iff_eq.1 h]
  · rename_i k a m b
    cases h1 : IntKind.same k m with
    | false => rw [h1] at h; cases h
    | true => rw [h1] at h; rw [IntKind.same_eq h1, Lin.same_eq h]
  · rw [eqBytes_eq] at h
    rw [of_decide_eq_true h]
  · rfl
  · rfl
  · rw [natIs_eq h]
  · rfl
  · cases h
def sames0 : List AV → List AV → Bool
  | [], [] => true
  | a :: r, b :: s => bif same0 a b then sames0 r s else false
  | _, _ => false
theorem sames0_eq : ∀ {a b : List AV}, sames0 a b = true → a = b
  | [], [], _ => rfl
  | a :: r, b :: s, h => by
    unfold sames0 at h
    cases h1 : same0 a b with
    | false => rw [h1] at h; cases h
    | true => rw [h1] at h; rw [same0_eq h1, sames0_eq h]
  | [], _ :: _, h => by cases h
  | _ :: _, [], h => by cases h
def same1 : AV → AV → Bool
  | .agg a, .agg b => sames0 a b
  | a, b => same0 a b
theorem same1_eq {a b : AV} (h : same1 a b = true) : a = b := by
  unfold same1 at h
  split at h
  · rw [sames0_eq h]
  · exact same0_eq h
def sames : List AV → List AV → Bool
  | [], [] => true
  | a :: r, b :: s => bif same1 a b then sames r s else false
  | _, _ => false
theorem sames_eq : ∀ {a b : List AV}, sames a b = true → a = b
  | [], [], _ => rfl
  | a :: r, b :: s, h => by
    unfold sames at h
    cases h1 : same1 a b with
    | false => rw [h1] at h; cases h
    | true => rw [h1] at h; rw [same1_eq h1, sames_eq h]
  | [], _ :: _, h => by cases h
  | _ :: _, [], h => by cases h
abbrev Memo := List (Nat × List AV × AV)
def look (f : Nat) (l : List AV) : Memo → Option AV
  | [] => none
  | (g, m, r) :: E => bif natIs f g then (bif sames l m then some r else look f l E) else look f l E
def Memo.Ok (P : Program) (G : World → Prop) (ρ : Nat → Int) (E : Memo) : Prop := ∀ e ∈ E, Ans P G ρ e.1 e.2.1 e.2.2
theorem Memo.Ok.nil {P : Program} {G : World → Prop} {ρ : Nat → Int} : Memo.Ok P G ρ [] := fun e he => by cases he
theorem Memo.Ok.cons {P : Program} {G : World → Prop} {ρ : Nat → Int} {E : Memo} {f : Nat} {l : List AV} {r : AV} (h : Ans P G ρ f l r) (k : Memo.Ok P G ρ E) : Memo.Ok P G ρ ((f, l, r) :: E) := fun e he => by
  rcases List.mem_cons.1 he with rfl | he
  · exact h
  · exact k e he
theorem Memo.Ok.append {P : Program} {G : World → Prop} {ρ : Nat → Int} {E F : Memo} (h : Memo.Ok P G ρ E) (k : Memo.Ok P G ρ F) : Memo.Ok P G ρ (E ++ F) := fun e he => (List.mem_append.1 he).elim (h e) (k e)
theorem look_ok {P : Program} {G : World → Prop} {ρ : Nat → Int} {f : Nat} {l : List AV} {r : AV} : ∀ {E : Memo}, Memo.Ok P G ρ E → look f l E = some r → Ans P G ρ f l r
  | [], _, h => by cases h
  | (g, m, r') :: E, hE, h => by
    have ht : Memo.Ok P G ρ E := fun e he => hE e (List.mem_cons_of_mem _ he)
    unfold look at h
    cases h1 : natIs f g with
    | false => rw [h1] at h; exact look_ok ht h
    | true =>
      rw [h1] at h
      cases h2 : sames l m with
      | false => rw [h2] at h; exact look_ok ht h
      | true =>
        rw [h2] at h
        obtain rfl := Option.some.inj h
        rw [natIs_eq h1, sames_eq h2]
        exact hE _ List.mem_cons_self
/-- What the evaluator asks of an oracle, out of an answer. -/
theorem orc_of_ans {P : Program} {G : World → Prop} (hk : Known G) {ρ : Nat → Int} {f : Nat} {l : List AV} {r : AV} (h : Ans P G ρ f l r) {W : World} (hG : G W) :
    ∀ (Γ : Gam) (A : AH) (w : World) (vs : Array Value), Γ.ρ = ρ → Γ.W = W → HR Γ A w → VRs Γ l vs.toList → Calls P f vs w fun e w' => ∃ v, e = .returned v ∧ VR Γ r v ∧ Same w w' := by
  intro Γ A w vs hρ hW hr hvs
  have hw : G w := hk.keep W w hG (by rw [← hW]; exact hr.size) fun c hc => by rw [← hW] at hc ⊢; exact hr.old c hc
  refine Calls.mono (h.calls w vs hw (VRs.flat (Γ := ⟨ρ, fun _ => none, w⟩) hρ.symm h.fl hvs)) ?_
  rintro e w' ⟨v, rfl, hv, hs⟩
  exact ⟨v, rfl, scalar_ok (Γ := Γ) hρ h.sc hv, hs⟩
theorem VRs.all0 {Γ Γ' : Gam} (hρ : Γ.ρ = Γ'.ρ) : ∀ {l : List AV} {m : List Value}, Ab.all0 l = true → VRs Γ' l m → VRs Γ l m
  | [], m, _, h => h.nil_of ▸ .nil
  | a :: l, m, hf, h => by
    unfold Ab.all0 at hf
    cases ha : sc0 a with
    | false => rw [ha] at hf; cases hf
    | true =>
      rw [ha] at hf
      obtain ⟨v, r, rfl, h1, h2⟩ := h.head
      exact .cons (sc0_ok hρ ha h1) (VRs.all0 hρ hf h2)
theorem LR.Is.all0 {Γ Γ' : Gam} (hρ : Γ.ρ = Γ'.ρ) {x : LR} (hb : ∀ y, x.box = some y → Ab.all0 y.1 = true ∧ Ab.all0 y.2 = true) {c s : Nat} {v : Value} (h : LR.Is Γ' x c s v) : LR.Is Γ x c s v := by
  cases h with
  | plain h => exact .plain h
  | box h h1 h2 => exact .box h (VRs.all0 hρ (hb _ h).1 h1) (VRs.all0 hρ (hb _ h).2 h2)
structure LAns (P : Program) (G : World → Prop) (ρ : Nat → Int) (f : Nat) (l : List AV) (x : LR) : Prop where
  has : ∃ fn c, P.funcs[f]? = some fn ∧ (fn.name == "runtime.NumGoroutine") = false ∧ fn.body = some c
  sc : Ab.all0 x.cs = true
  bx : ∀ y, x.box = some y → Ab.all0 y.1 = true ∧ Ab.all0 y.2 = true
  fl : flat l = true
  calls : ∀ (w : World) (vs : Array Value), G w → VRs ⟨ρ, fun _ => none, w⟩ l vs.toList → Calls P f vs w fun e w' => ∃ c s arr v, e = .returned v ∧ LR.Is ⟨ρ, fun _ => none, w⟩ x c s v ∧ w.heap.size ≤ c ∧ w'.heap[c]? = some (.cells arr x.elem (0, 0)) ∧
    arr.size = x.cs.length + s * x.sz ∧ VRs ⟨ρ, fun _ => none, w⟩ x.cs (arr.toList.take x.cs.length) ∧ Same w w'
abbrev LMemo := List (Nat × List AV × LR)
def lookL (f : Nat) (l : List AV) : LMemo → Option LR
  | [] => none
  | (g, m, r) :: E => bif natIs f g then (bif sames l m then some r else lookL f l E) else lookL f l E
def LMemo.Ok (P : Program) (G : World → Prop) (ρ : Nat → Int) (E : LMemo) : Prop := ∀ e ∈ E, LAns P G ρ e.1 e.2.1 e.2.2
theorem LMemo.Ok.nil {P : Program} {G : World → Prop} {ρ : Nat → Int} : LMemo.Ok P G ρ [] := fun e he => by cases he
theorem LMemo.Ok.cons {P : Program} {G : World → Prop} {ρ : Nat → Int} {E : LMemo} {f : Nat} {l : List AV} {r : LR} (h : LAns P G ρ f l r) (k : LMemo.Ok P G ρ E) : LMemo.Ok P G ρ ((f, l, r) :: E) := fun e he => by
  rcases List.mem_cons.1 he with rfl | he
  · exact h
  · exact k e he
theorem lookL_ok {P : Program} {G : World → Prop} {ρ : Nat → Int} {f : Nat} {l : List AV} {r : LR} : ∀ {E : LMemo}, LMemo.Ok P G ρ E → lookL f l E = some r → LAns P G ρ f l r
  | [], _, h => by cases h
  | (g, m, r') :: E, hE, h => by
    have ht : LMemo.Ok P G ρ E := fun e he => hE e (List.mem_cons_of_mem _ he)
    unfold lookL at h
    cases h1 : natIs f g with
    | false => rw [h1] at h; exact lookL_ok ht h
    | true =>
      rw [h1] at h
      cases h2 : sames l m with
      | false => rw [h2] at h; exact lookL_ok ht h
      | true =>
        rw [h2] at h
        obtain rfl := Option.some.inj h
        rw [natIs_eq h1, sames_eq h2]
        exact hE _ List.mem_cons_self
theorem lst_of_ans {P : Program} {G : World → Prop} (hk : Known G) {ρ : Nat → Int} {f : Nat} {l : List AV} {x : LR} (h : LAns P G ρ f l x) {W : World} (hG : G W) :
    ∀ (Γ : Gam) (A : AH) (w : World) (vs : Array Value), Γ.ρ = ρ → Γ.W = W → HR Γ A w → VRs Γ l vs.toList → Calls P f vs w fun e w' => ∃ c s arr v, e = .returned v ∧ LR.Is Γ x c s v ∧ w.heap.size ≤ c ∧ w'.heap[c]? = some (.cells arr x.elem (0, 0)) ∧
      arr.size = x.cs.length + s * x.sz ∧ VRs Γ x.cs (arr.toList.take x.cs.length) ∧ Same w w' := by
  intro Γ A w vs hρ hW hr hvs
  have hw : G w := hk.keep W w hG (by rw [← hW]; exact hr.size) fun c hc => by rw [← hW] at hc ⊢; exact hr.old c hc
  refine Calls.mono (h.calls w vs hw (VRs.flat (Γ := ⟨ρ, fun _ => none, w⟩) hρ.symm h.fl hvs)) ?_
  rintro e w' ⟨c, s, arr, v, h1, hv, h2, h3, h4, h5, h6⟩
  exact ⟨c, s, arr, v, h1, LR.Is.all0 hρ h.bx hv, h2, h3, h4, VRs.all0 (Γ := Γ) hρ h.sc h5, h6⟩
structure Base where
  P : Program
  F : Tr Func
  gl : Nat → Bool
  G : World → Prop
  A0 : AH
  β : Nat → Option (Nat × Nat)
structure Base.Fit (B : Base) : Prop where
  mixed : B.P.follows .mixedOrders = true
  fns : ∀ f fn, B.F.get f = some fn → B.P.funcs[f]? = some fn ∧ (fn.name == "runtime.NumGoroutine") = false
  known : Known B.G
  hr : ∀ ρ w, B.G w → HR ⟨ρ, B.β, w⟩ B.A0 w
  glb : ∀ g, B.gl g = true → B.β g = some (g, 0)
  free : ∀ i, B.A0.next ≤ i → B.β i = none
  nrw : noRw B.A0.h = true
abbrev Oracle := Nat → List AV → Option AV
abbrev LOracle := Nat → List AV → Option LR
def Base.cfg (B : Base) (V : Env) (O : Oracle) (L : LOracle) : Cfg := { P := B.P, V := V, F := B.F, O := O, L := L, gl := B.gl }
def OkO (B : Base) (ρ : Nat → Int) (O : Oracle) : Prop := ∀ f l r, O f l = some r → Ans B.P B.G ρ f l r
def OkL (B : Base) (ρ : Nat → Int) (L : LOracle) : Prop := ∀ f l r, L f l = some r → LAns B.P B.G ρ f l r
def orElse (O1 O2 : Oracle) : Oracle := fun f l => match O1 f l with
  | some r => some r
  | none => O2 f l
theorem OkO.orElse {B : Base} {ρ : Nat → Int} {O1 O2 : Oracle} (h1 : OkO B ρ O1) (h2 : OkO B ρ O2) : OkO B ρ (orElse O1 O2) := by
  intro f l r h
  unfold Ab.orElse at h
  split at h
  · rename_i x hx
    obtain rfl := Option.some.inj h
    exact h1 f l _ hx
  · exact h2 f l r h
def memo (E : Memo) : Oracle := fun f l => look f l E
theorem OkO.memo {B : Base} {ρ : Nat → Int} {E : Memo} (h : Memo.Ok B.P B.G ρ E) : OkO B ρ (memo E) := fun _ _ _ hl => look_ok h hl
def noO : Oracle := fun _ _ => none
theorem OkO.none {B : Base} {ρ : Nat → Int} : OkO B ρ noO := fun _ _ _ h => by cases h
def memoL (E : LMemo) : LOracle := fun f l => lookL f l E
theorem OkL.memo {B : Base} {ρ : Nat → Int} {E : LMemo} (h : LMemo.Ok B.P B.G ρ E) : OkL B ρ (memoL E) := fun _ _ _ hl => lookL_ok h hl
def noL : LOracle := fun _ _ => none
theorem OkL.none {B : Base} {ρ : Nat → Int} : OkL B ρ noL := fun _ _ _ h => by cases h
theorem Base.ok {B : Base} (hB : B.Fit) {V : Env} {ρ : Nat → Int} (hV : V.Ok ρ) {O : Oracle} (hO : OkO B ρ O) {L : LOracle} (hL : OkL B ρ L) {W : World} (hG : B.G W) : (B.cfg V O L).Ok ρ W :=
  ⟨hV, hB.mixed, hB.fns, fun f l r h => ⟨(hO f l r h).has, orc_of_ans hB.known (hO f l r h) hG⟩, fun f l x h => ⟨(hL f l x h).has, lst_of_ans hB.known (hL f l x h) hG⟩⟩
theorem Base.has {B : Base} (hB : B.Fit) {V : Env} {ρ : Nat → Int} {O : Oracle} (hO : OkO B ρ O) {L : LOracle} (hL : OkL B ρ L) {rc : RunFn} {f : Nat} {l : List AV} {A A' : AH} {r : AV} (h : callA rc (B.cfg V O L) f l A = some (r, A')) :
    ∃ fn c, B.P.funcs[f]? = some fn ∧ (fn.name == "runtime.NumGoroutine") = false ∧ fn.body = some c := by
  unfold callA at h
  split at h
  · rename_i r' ho
    exact (hO f l r' ho).has
  split at h
  · rename_i x hx
    exact (hL f l x hx).has
  split at h
  · rename_i fn hF
    split at h
    · rename_i c hb
      obtain ⟨h1, h2⟩ := hB.fns f fn hF
      exact ⟨fn, c, h1, h2, hb⟩
    · cases h
  · cases h
/-- ████ From a kernel's reckoning to the answer. ████ -/
theorem Base.ans {B : Base} (hB : B.Fit) {V : Env} {ρ : Nat → Int} (hV : V.Ok ρ) {O : Oracle} (hO : OkO B ρ O) {L : LOracle} (hL : OkL B ρ L) {n f : Nat} {l : List AV} {r : AV} (h : (callA (run (B.cfg V O L) n) (B.cfg V O L) f l B.A0).map Prod.fst = some r) (hs : scalar r = true) (hfl : flat l = true) : Ans B.P B.G ρ f l r := by
  obtain ⟨⟨r', A'⟩, h1, rfl⟩ := Option.map_eq_some_iff.1 h
  refine ⟨B.has hB hO hL h1, hs, hfl, fun w vs hG hvs => Calls.mono (calls_of_run (B.ok hB hV hO hL hG) h1 (Γ := ⟨ρ, B.β, w⟩) (w := w) ⟨rfl, rfl, hB.glb⟩ (hB.hr ρ w hG) (VRs.flat (Γ := ⟨ρ, B.β, w⟩) (Γ' := ⟨ρ, fun _ => none, w⟩) rfl hfl hvs) fun i h1 _ => hB.free i h1) ?_⟩
  rintro e w' ⟨v, Γ', rfl, hv, had⟩
  exact ⟨v, rfl, scalar_ok (Γ := ⟨ρ, fun _ => none, w⟩) had.le.ρ.symm hs hv, same_of_adv had (hB.hr ρ w hG) rfl hB.nrw⟩
def keepsB : AV → Bool
  | .bool _ | .int _ _ | .str _ | .tok _ => true
  | _ => false
def blur0 (a : AV) : AV := bif keepsB a then a else bif a.plain then .one else .any
def blurs0 : List AV → List AV
  | [] => []
  | a :: r => blur0 a :: blurs0 r
def blur1 : AV → AV
  | .agg l => .agg (blurs0 l)
  | a => blur0 a
def blurs1 : List AV → List AV
  | [] => []
  | a :: r => blur1 a :: blurs1 r
def blur : AV → AV
  | .tuple l => .tuple (blurs1 l)
  | a => blur1 a
theorem blur0_ok {Γ : Gam} {a : AV} {v : Value} (h : VR Γ a v) : VR Γ (blur0 a) v := by
  unfold blur0
  cases keepsB a with
  | true => exact h
  | false =>
    cases hp : a.plain with
    | true => exact .one (h.plain hp)
    | false => exact .any
theorem blurs0_ok {Γ : Gam} : ∀ {l : List AV} {m : List Value}, VRs Γ l m → VRs Γ (blurs0 l) m
  | [], m, h => by rw [h.nil_of]; exact .nil
  | a :: r, m, h => by
    obtain ⟨x, t, rfl, h1, h2⟩ := h.head
    exact .cons (blur0_ok h1) (blurs0_ok h2)
theorem blur1_ok {Γ : Gam} {a : AV} {v : Value} (h : VR Γ a v) : VR Γ (blur1 a) v := by
  unfold blur1
  split
  · obtain ⟨m, rfl, hm⟩ := h.of_agg
    exact .agg' (blurs0_ok hm)
  · exact blur0_ok h
theorem blurs1_ok {Γ : Gam} : ∀ {l : List AV} {m : List Value}, VRs Γ l m → VRs Γ (blurs1 l) m
  | [], m, h => by rw [h.nil_of]; exact .nil
  | a :: r, m, h => by
    obtain ⟨x, t, rfl, h1, h2⟩ := h.head
    exact .cons (blur1_ok h1) (blurs1_ok h2)
theorem blur_ok {Γ : Gam} {a : AV} {v : Value} (h : VR Γ a v) : VR Γ (blur a) v := by
  unfold blur
  split
  · obtain ⟨m, rfl, hm⟩ := h.of_tuple
    exact .tuple' (blurs1_ok hm)
  · exact blur1_ok h
/-- From a kernel's reckoning to the answer, what has an address being forgotten. -/
theorem Base.ansX {B : Base} (hB : B.Fit) {V : Env} {ρ : Nat → Int} (hV : V.Ok ρ) {O : Oracle} (hO : OkO B ρ O) {L : LOracle} (hL : OkL B ρ L) {n f : Nat} {l : List AV} {r : AV} (h : (callA (run (B.cfg V O L) n) (B.cfg V O L) f l B.A0).map (fun x => blur x.1) = some r) (hs : scalar r = true) (hfl : flat l = true) : Ans B.P B.G ρ f l r := by
  obtain ⟨⟨r', A'⟩, h1, rfl⟩ := Option.map_eq_some_iff.1 h
  refine ⟨B.has hB hO hL h1, hs, hfl, fun w vs hG hvs => Calls.mono (calls_of_run (B.ok hB hV hO hL hG) h1 (Γ := ⟨ρ, B.β, w⟩) (w := w) ⟨rfl, rfl, hB.glb⟩ (hB.hr ρ w hG) (VRs.flat (Γ := ⟨ρ, B.β, w⟩) (Γ' := ⟨ρ, fun _ => none, w⟩) rfl hfl hvs) fun i h1 _ => hB.free i h1) ?_⟩
  rintro e w' ⟨v, Γ', rfl, hv, had⟩
  exact ⟨v, rfl, scalar_ok (Γ := ⟨ρ, fun _ => none, w⟩) had.le.ρ.symm hs (blur_ok hv), same_of_adv had (hB.hr ρ w hG) rfl hB.nrw⟩
/-- The row that stands there, and where. -/
def rowAt (x : LR) (A0 : Nat) (b off len cap : Nat) (opn : Bool) (A' : AH) : Bool :=
  natIs off 0 && natIs len x.n && natIs cap x.n && (opn == x.opn) && Nat.ble A0 b && (match A'.h.get b with
    | some (.cells cs e sz true) => sames0 cs x.cs && natIs e x.elem && natIs sz x.sz
    | _ => false)
def boxN (x : LR) : Bool := match x.box with
  | none => true
  | some _ => false
theorem boxN_eq {x : LR} (h : boxN x = true) : x.box = none := by
  unfold boxN at h
  cases hb : x.box with
  | none => rfl
  | some y => rw [hb] at h; cases h
/-- The cell behind such cells, and those behind it. -/
def splitB : List AV → List AV → Option (AV × List AV)
  | [], l => (match l with
    | [] => none
    | y :: r => some (y, r))
  | a :: a1, l => (match l with
    | [] => none
    | y :: r => bif same0 y a then splitB a1 r else none)
theorem splitB_eq : ∀ {a1 l : List AV} {y : AV} {r : List AV}, splitB a1 l = some (y, r) → l = a1 ++ y :: r
  | [], l, y, r, h => by
    unfold splitB at h
    split at h
    · cases h
    · obtain ⟨rfl, rfl⟩ := Prod.mk.inj (Option.some.inj h)
      rfl
  | a :: a1, l, y, r, h => by
    unfold splitB at h
    split at h
    · cases h
    · rename_i z t
      cases hs : same0 z a with
      | false => rw [hs] at h; cases h
      | true =>
        rw [hs] at h
        rw [same0_eq hs, splitB_eq (a1 := a1) h]
        rfl
theorem VRs.split {Γ : Gam} : ∀ {a b : List AV} {m : List Value}, VRs Γ (a ++ b) m → ∃ m1 m2, m = m1 ++ m2 ∧ VRs Γ a m1 ∧ VRs Γ b m2
  | [], b, m, h => ⟨[], m, rfl, .nil, h⟩
  | x :: a, b, m, h => by
    obtain ⟨v, r, rfl, h1, h2⟩ := VRs.head (h : VRs Γ (x :: (a ++ b)) m)
    obtain ⟨m1, m2, rfl, h3, h4⟩ := VRs.split h2
    exact ⟨v :: m1, m2, rfl, .cons h1 h3, h4⟩
def isBox (x : LR) (A0 : Nat) (y : List AV × List AV) (k : IntKind) (e : Lin) (A' : AH) : Option (AV × List AV) → Bool
  | some (.slice b off len cap opn, r) => sames0 r y.2 && (IntKind.same k .i64 && e.same (.lit x.code)) && rowAt x A0 b off len cap opn A'
  | _ => false
def isLR (x : LR) (A0 : Nat) : Option (AV × AH) → Bool
  | some (.slice b off len cap opn, A') => boxN x && (match x.tup with | none => true | some _ => false) && rowAt x A0 b off len cap opn A'
  | some (.tuple [.slice b off len cap opn, .int k e], A') => boxN x && (match x.tup with | none => false | some z => IntKind.same k .i64 && e.same (.lit z)) && rowAt x A0 b off len cap opn A'
  | some (.tuple [.agg l, .int k e], A') => (match x.box with
    | none => false
    | some y => isBox x A0 y k e A' (splitB y.1 l))
  | _ => false
theorem isLR_eq {x : LR} {A0 : Nat} {r : AV} {A' : AH} (h : isLR x A0 (some (r, A')) = true) : ∃ b, r = x.av b ∧ A0 ≤ b ∧ A'.h.get b = some (.cells x.cs x.elem x.sz true) := by
  have row : ∀ {b off len cap : Nat} {opn : Bool}, rowAt x A0 b off len cap opn A' = true → off = 0 ∧ len = x.n ∧ cap = x.n ∧ opn = x.opn ∧ A0 ≤ b ∧ A'.h.get b = some (.cells x.cs x.elem x.sz true) := by
    intro b off len cap opn h
    simp only [rowAt, Bool.and_eq_true] at h
    obtain ⟨⟨⟨⟨⟨h1, h2⟩, h3⟩, h4⟩, h5⟩, h6⟩ := h
    refine ⟨natIs_eq h1, natIs_eq h2, natIs_eq h3, beq_iff_eq.1 h4, Nat.le_of_ble_eq_true h5, ?_⟩
    split at h6
    · rename_i cs e sz hg
      simp only [Bool.and_eq_true] at h6
      rw [hg, sames0_eq h6.1.1, natIs_eq h6.1.2, natIs_eq h6.2]
    · cases h6
  unfold isLR at h
  split at h
  · rename_i b off len cap opn A1 e
    obtain ⟨rfl, rfl⟩ := Prod.mk.inj (Option.some.inj e)
    rw [Bool.and_eq_true, Bool.and_eq_true] at h
    obtain ⟨rfl, rfl, rfl, rfl, g1, g2⟩ := row h.2
    refine ⟨b, ?_, g1, g2⟩
    have hb := boxN_eq h.1.1
    cases ht : x.tup with
    | none => simp [LR.av, ht, hb]
    | some z => rw [ht] at h; cases h.1.2
  · rename_i b off len cap opn k e A1 e1
    obtain ⟨rfl, rfl⟩ := Prod.mk.inj (Option.some.inj e1)
    rw [Bool.and_eq_true, Bool.and_eq_true] at h
    obtain ⟨rfl, rfl, rfl, rfl, g1, g2⟩ := row h.2
    refine ⟨b, ?_, g1, g2⟩
    have hb := boxN_eq h.1.1
    cases ht : x.tup with
    | none => rw [ht] at h; cases h.1.2
    | some z =>
      have h1 := h.1.2
      rw [ht] at h1
      simp only [Bool.and_eq_true] at h1
      rw [IntKind.same_eq h1.1, Lin.same_eq h1.2]
      simp [LR.av, ht, hb]
  · rename_i l k e A1 e1
    obtain ⟨rfl, rfl⟩ := Prod.mk.inj (Option.some.inj e1)
    cases hb : x.box with
    | none => rw [hb] at h; cases h
    | some y =>
      rw [hb] at h
      simp only at h
      unfold isBox at h
      split at h
      · rename_i b off len cap opn r hsp
        simp only [Bool.and_eq_true] at h
        obtain ⟨⟨h1, h2, h3⟩, h4⟩ := h
        obtain ⟨rfl, rfl, rfl, rfl, g1, g2⟩ := row h4
        refine ⟨b, ?_, g1, g2⟩
        rw [splitB_eq hsp, sames0_eq h1, IntKind.same_eq h2, Lin.same_eq h3]
        simp [LR.av, hb]
      · cases h
  · cases h
theorem Base.lans {B : Base} (hB : B.Fit) {V : Env} {ρ : Nat → Int} (hV : V.Ok ρ) {O : Oracle} (hO : OkO B ρ O) {L : LOracle} (hL : OkL B ρ L) {n f : Nat} {l : List AV} {x : LR} (h : isLR x B.A0.next (callA (run (B.cfg V O L) n) (B.cfg V O L) f l B.A0) = true) (hs : Ab.all0 x.cs = true) (hx : ∀ y, x.box = some y → Ab.all0 y.1 = true ∧ Ab.all0 y.2 = true) (hfl : flat l = true) : LAns B.P B.G ρ f l x := by
  cases hq : callA (run (B.cfg V O L) n) (B.cfg V O L) f l B.A0 with
  | none => rw [hq] at h; cases h
  | some q =>
    obtain ⟨r, A'⟩ := q
    rw [hq] at h
    obtain ⟨b, rfl, hb, hg⟩ := isLR_eq h
    refine ⟨B.has hB hO hL hq, hs, hx, hfl, fun w vs hG hvs => Calls.mono (calls_of_run (B.ok hB hV hO hL hG) hq (Γ := ⟨ρ, B.β, w⟩) (w := w) ⟨rfl, rfl, hB.glb⟩ (hB.hr ρ w hG) (VRs.flat (Γ := ⟨ρ, B.β, w⟩) (Γ' := ⟨ρ, fun _ => none, w⟩) rfl hfl hvs) fun i h1 _ => hB.free i h1) ?_⟩
    rintro e w' ⟨v, Γ', rfl, hv, had⟩
    have key : ∃ c s, LR.Is ⟨ρ, fun _ => none, w⟩ x c s v ∧ Γ'.β b = some (c, s) := by
      unfold LR.av at hv
      cases hb : x.box with
      | none =>
        rw [hb] at hv
        have hval : ∃ c s, v = x.val c s ∧ Γ'.β b = some (c, s) := by
          unfold LR.val LR.sl
          cases ht : x.tup with
          | none =>
            rw [ht] at hv
            cases hv with
            | slice h1 h2 => exact ⟨_, _, by rw [h2], h1⟩
          | some z =>
            rw [ht] at hv
            obtain ⟨m, rfl, hm⟩ := hv.of_tuple
            obtain ⟨v1, r1, e1, h1, h2⟩ := hm.head
            obtain ⟨v2, r2, e2, h3, h4⟩ := h2.head
            have h5 := h4.nil_of
            subst h5 e2
            cases h1 with
            | slice g1 g2 =>
              cases h3 with
              | int g3 =>
                rw [den_lit] at g3
                subst g3 g2
                refine ⟨_, _, ?_, g1⟩
                have : m = #[_, _] := Array.toList_inj.1 e1
                rw [this]
        obtain ⟨c, s, rfl, h1⟩ := hval
        exact ⟨c, s, .plain hb, h1⟩
      | some y =>
        rw [hb] at hv
        simp only at hv
        obtain ⟨m, rfl, hm⟩ := hv.of_tuple
        obtain ⟨v1, r1, e1, h1, h2⟩ := hm.head
        obtain ⟨v2, r2, e2, h3, h4⟩ := h2.head
        have h5 := h4.nil_of
        subst h5 e2
        obtain ⟨n, rfl, hn⟩ := h1.of_agg
        obtain ⟨m1, m2, en, k1, k2⟩ := VRs.split hn
        obtain ⟨z, m3, rfl, k3, k4⟩ := k2.head
        obtain ⟨a1, a2⟩ := y
        have e4 : n = (m1 ++ z :: m3).toArray := Array.toList_inj.1 (by rw [en])
        cases k3 with
        | slice g1 g2 =>
          cases h3 with
          | int g3 =>
            rw [den_lit] at g3
            subst g3 g2
            refine ⟨_, _, ?_, g1⟩
            have e3 : m = #[_, _] := Array.toList_inj.1 e1
            rw [e3, e4]
            exact .box hb (VRs.all0 (Γ := ⟨ρ, fun _ => none, w⟩) had.le.ρ.symm (hx _ hb).1 k1) (VRs.all0 (Γ := ⟨ρ, fun _ => none, w⟩) had.le.ρ.symm (hx _ hb).2 k4)
    obtain ⟨c, s, his, hβ⟩ := key
    obtain ⟨arr, fz, g1, g2, g3, g4⟩ := had.hr.at_ b c s _ hβ hg
    obtain rfl := g3 rfl
    have hfresh := had.fresh b c s hβ (hB.free b hb)
    refine ⟨c, s, arr, v, rfl, his, ?_, g1, g2, VRs.all0 (Γ := ⟨ρ, fun _ => none, w⟩) had.le.ρ.symm hs g4, same_of_adv had (hB.hr ρ w hG) rfl hB.nrw⟩
    rcases hfresh with h1 | ⟨b', s', o', _, h2, h3⟩
    · exact h1
    · rw [noRw_get _ _ _ hB.nrw h2] at h3; cases h3
end
end Go.Proofs.YtnikgcedifdaeaaGreatDoor.Ab
end

section
/- The same run, by recursors whose branches are closed: the kernel reckons it in fewer steps. Plain. -/
namespace Go.Proofs.YtnikgcedifdaeaaGreatDoor.Ab
open Go
noncomputable section
def oget (x : Option AV) : AV := Option.rec (motive := fun _ => AV) .any (fun a => a) x
def valF (C : Cfg) (T : Tr AV) (x : Operand) : AV := Operand.rec (motive := fun _ => Cfg → Tr AV → AV) (fun t _ T => oget (T.get t)) (fun v _ _ => oget (AV.of v)) (fun g C _ => Bool.rec (motive := fun _ => AV) .any (.ptr g 0) (C.gl g)) (fun f _ _ => .func (.func f) [] []) x C T
theorem valF_eq (C : Cfg) (T : Tr AV) : valF C T = val C T := by
  funext x
  cases x with
  | tmp t =>
    show oget (T.get t) = val C T (.tmp t)
    unfold val
    dsimp only
    cases T.get t <;> rfl
  | const v =>
    show oget (AV.of v) = val C T (.const v)
    unfold val
    dsimp only
    cases AV.of v <;> rfl
  | global g =>
    show (Bool.rec .any (.ptr g 0) (C.gl g) : AV) = val C T (.global g)
    unfold val
    dsimp only
    cases C.gl g <;> rfl
  | func f => rfl
def oneF (x : Option AV) (A : AH) : Option R := Option.rec (motive := fun _ => Option R) none (fun r => some (.val r A)) x
theorem oneF_eq (x : Option AV) (A : AH) : oneF x A = one x A := by cases x <;> rfl
def iadd (a b : Int) : Int := Int.rec (motive := fun _ => Int → Int) (fun m b => Int.rec (motive := fun _ => Nat → Int) (fun n m => .ofNat (Nat.add m n)) (fun n m => Int.subNatNat m (Nat.succ n)) b m) (fun m b => Int.rec (motive := fun _ => Nat → Int) (fun n m => Int.subNatNat n (Nat.succ m)) (fun n m => .negSucc (Nat.succ (Nat.add m n))) b m) a b
theorem iadd_eq (a b : Int) : iadd a b = a + b := by cases a <;> cases b <;> rfl
def addF (a b : Lin) : Lin := ⟨iadd a.c b.c, addT a.ts b.ts⟩
theorem addF_eq (a b : Lin) : addF a b = a.add b := by unfold addF Lin.add; rw [iadd_eq]
def litF (a : Lin) : Bool := List.rec (motive := fun _ => Bool) true (fun _ _ _ => false) a.ts
theorem litF_eq (a : Lin) : litF a = a.isLit := by unfold litF Lin.isLit; cases a.ts <;> rfl
def wrapLit (k : IntKind) (e : Lin) : Option Lin := Bool.rec (motive := fun _ => Option Lin) (some (.lit (k.wrap e.c))) (Bool.rec (motive := fun _ => Option Lin) (some (.lit (k.wrap e.c))) (some e) (ile e.c (kmax k))) (ile (kmin k) e.c)
def wrapF (V : Env) (k : IntKind) (e : Lin) : Option Lin := Bool.rec (motive := fun _ => Option Lin) (V.wrap k e) (wrapLit k e) (litF e)
theorem wrapF_eq (V : Env) (k : IntKind) (e : Lin) : wrapF V k e = V.wrap k e := by
  unfold wrapF
  rw [litF_eq]
  cases h : e.isLit with
  | false => rfl
  | true =>
    show wrapLit k e = _
    unfold wrapLit Env.wrap
    rw [h]
    dsimp only
    cases ile (kmin k) e.c with
    | false => rfl
    | true => cases ile e.c (kmax k) <;> rfl
def intO (k : IntKind) (x : Option Lin) : Option AV := Option.rec (motive := fun _ => IntKind → Option AV) (fun _ => none) (fun e k => some (.int k e)) x k
def booO (x : Option Bool) : Option AV := Option.rec (motive := fun _ => Option AV) none (fun b => some (.bool b)) x
def notO (x : Option Bool) : Option AV := Option.rec (motive := fun _ => Option AV) none (fun b => some (.bool (Bool.rec true false b))) x
def leF (V : Env) (a b : Lin) : Option Bool := Bool.rec (motive := fun _ => Option Bool) (V.le a b) (Bool.rec (motive := fun _ => Option Bool) (V.le a b) (some (ile a.c b.c)) (litF b)) (litF a)
theorem leF_eq (V : Env) (a b : Lin) : leF V a b = V.le a b := by
  unfold leF
  rw [litF_eq, litF_eq]
  cases h1 : a.isLit with
  | false => rfl
  | true =>
    cases h2 : b.isLit with
    | false => rfl
    | true => unfold Env.le; rw [h1, h2]
def ieq (a b : Int) : Bool := Int.rec (motive := fun _ => Int → Bool) (fun m b => Int.rec (motive := fun _ => Nat → Bool) (fun n m => Nat.beq m n) (fun _ _ => false) b m) (fun m b => Int.rec (motive := fun _ => Nat → Bool) (fun _ _ => false) (fun n m => Nat.beq m n) b m) a b
theorem ieq_iff {a b : Int} : ieq a b = true ↔ a = b := by
  cases a with
  | ofNat m =>
    cases b with
    | ofNat n => show Nat.beq m n = true ↔ _; rw [Nat.beq_eq]; simp only [Int.ofNat_eq_natCast]; omega
    | negSucc n => show false = true ↔ _; simp
  | negSucc m =>
    cases b with
    | ofNat n => show false = true ↔ _; simp
    | negSucc n => show Nat.beq m n = true ↔ _; rw [Nat.beq_eq]; simp
def eqF2 (V : Env) (a b : Lin) : Option Bool := Bool.rec (motive := fun _ => Option Bool) (V.eq a b) (Bool.rec (motive := fun _ => Option Bool) (V.eq a b) (some (ieq a.c b.c)) (litF b)) (litF a)
theorem eqF2_eq (V : Env) (a b : Lin) : eqF2 V a b = V.eq a b := by
  unfold eqF2
  rw [litF_eq, litF_eq]
  cases h1 : a.isLit with
  | false => rfl
  | true =>
    cases h2 : b.isLit with
    | false => rfl
    | true =>
      show some (ieq a.c b.c) = _
      obtain ⟨ac, at_⟩ := a
      obtain ⟨bc, bt⟩ := b
      have e1 : at_ = [] := by cases at_ <;> first | rfl | cases h1
      have e2 : bt = [] := by cases bt <;> first | rfl | cases h2
      subst e1 e2
      unfold Env.eq
      have : (Lin.sub ⟨ac, []⟩ ⟨bc, []⟩).isLit = true := rfl
      rw [this]
      show some (ieq ac bc) = some (zero (ac - bc))
      congr 1
      rw [Bool.eq_iff_iff, ieq_iff, zero_iff]
      omega
abbrev BinM := Env → IntKind → Lin → Lin → Option AV
def evIntF (V : Env) (op : BinOp) (k : IntKind) (a b : Lin) : Option AV := BinOp.rec (motive := fun _ => BinM)
  (fun V k a b => intO k (wrapF V k (addF a b)))
  (fun V k a b => evInt V .sub k a b) (fun V k a b => evInt V .mul k a b) (fun V k a b => evInt V .quo k a b) (fun V k a b => evInt V .rem k a b) (fun V k a b => evInt V .and k a b) (fun V k a b => evInt V .or k a b)
  (fun V k a b => evInt V .xor k a b) (fun V k a b => evInt V .shl k a b) (fun V k a b => evInt V .shr k a b) (fun V k a b => evInt V .andNot k a b)
  (fun V _ a b => booO (eqF2 V a b)) (fun V _ a b => notO (eqF2 V a b)) (fun V _ a b => notO (leF V b a)) (fun V _ a b => booO (leF V a b)) (fun V _ a b => notO (leF V a b)) (fun V _ a b => booO (leF V b a)) op V k a b
theorem evIntF_eq (V : Env) (op : BinOp) (k : IntKind) (a b : Lin) : evIntF V op k a b = evInt V op k a b := by
  unfold evIntF evInt
  cases op <;> dsimp only
  case add => rw [wrapF_eq, addF_eq]; cases V.wrap k (a.add b) <;> rfl
  case eql => rw [eqF2_eq]; cases V.eq a b <;> rfl
  case neq => rw [eqF2_eq]; cases V.eq a b with | none => rfl | some x => cases x <;> rfl
  case lss => rw [leF_eq]; cases V.le b a with | none => rfl | some x => cases x <;> rfl
  case leq => rw [leF_eq]; cases V.le a b <;> rfl
  case gtr => rw [leF_eq]; cases V.le a b with | none => rfl | some x => cases x <;> rfl
  case geq => rw [leF_eq]; cases V.le b a <;> rfl
  all_goals rfl
def isShift (op : BinOp) : Bool := BinOp.rec (motive := fun _ => Bool) false false false false false false false false true true false false false false false false false op
def evIIF (V : Env) (op : BinOp) (k : IntKind) (a : Lin) (k' : IntKind) (b : Lin) : Option AV := Bool.rec (motive := fun _ => Option AV) (Bool.rec (motive := fun _ => Option AV) none (evIntF V op k a b) (Nat.beq (kix k) (kix k'))) (evII V op k a k' b) (isShift op)
theorem evIIF_eq (V : Env) (op : BinOp) (k : IntKind) (a : Lin) (k' : IntKind) (b : Lin) : evIIF V op k a k' b = evII V op k a k' b := by
  unfold evIIF
  rw [evIntF_eq]
  have e : ∀ x : Bool, (Bool.rec none (evInt V op k a b) x : Option AV) = match x with | true => evInt V op k a b | false => none := fun x => by cases x <;> rfl
  cases op <;> first | rfl | exact e _
/-- The two whole numbers that stand there, if there are two. -/
abbrev IntM := Env → Program → BinOp → TypeId → AV → Option AV
def evBinF (V : Env) (P : Program) (op : BinOp) (t : TypeId) (x y : AV) : Option AV := AV.casesOn (motive_1 := fun _ => IntM) x (fun V P op t y => evBin2 V P op t .any y) (fun b V P op t y => evBin2 V P op t (.bool b) y)
  (fun k a V P op t y => AV.casesOn (motive_1 := fun _ => Env → Program → BinOp → TypeId → IntKind → Lin → Option AV) y (fun _ _ _ _ _ _ => none) (fun _ _ _ _ _ _ _ => none) (fun k' b V _ op _ k a => evIIF V op k a k' b)
    (fun _ _ _ _ _ _ _ => none) (fun _ _ _ _ _ _ => none) (fun _ _ _ _ _ _ _ _ => none) (fun _ _ _ _ _ _ => none) (fun _ _ _ _ _ _ _ _ _ _ _ => none) (fun _ _ _ _ _ _ => none) (fun _ _ _ _ _ _ _ => none) (fun _ _ _ _ _ _ _ => none)
    (fun _ _ _ _ _ _ _ _ _ => none) (fun _ _ _ _ _ _ => none) (fun _ _ _ _ _ _ _ _ => none) (fun _ _ _ _ _ _ => none) (fun _ _ _ _ _ _ _ => none) (fun _ _ _ _ _ _ _ => none) (fun _ _ _ _ _ _ => none) (fun _ _ _ _ _ _ => none) (fun _ _ _ _ _ _ _ => none) V P op t k a)
  (fun s V P op t y => evBin2 V P op t (.str s) y) (fun V P op t y => evBin2 V P op t .nilptr y) (fun b o V P op t y => evBin2 V P op t (.ptr b o) y) (fun V P op t y => evBin2 V P op t .nilslice y)
  (fun a b c d e V P op t y => evBin2 V P op t (.slice a b c d e) y) (fun V P op t y => evBin2 V P op t .nilmap y) (fun r V P op t y => evBin2 V P op t (.map r) y) (fun r V P op t y => evBin2 V P op t (.chan r) y)
  (fun a b c V P op t y => evBin2 V P op t (.func a b c) y) (fun V P op t y => evBin2 V P op t .nilFunc y) (fun a b V P op t y => evBin2 V P op t (.iface a b) y) (fun V P op t y => evBin2 V P op t .nilIface y)
  (fun l V P op t y => evBin2 V P op t (.agg l) y) (fun l V P op t y => evBin2 V P op t (.tuple l) y) (fun V P op t y => evBin2 V P op t .emp y) (fun V P op t y => evBin2 V P op t .one y) (fun i V P op t y => evBin2 V P op t (.tok i) y) V P op t y
theorem evBinF_eq (V : Env) (P : Program) (op : BinOp) (t : TypeId) (x y : AV) : evBinF V P op t x y = evBin2 V P op t x y := by
  cases x <;> first
    | rfl
    | (cases y <;> first | rfl | exact evIIF_eq ..)
abbrev OpM := Cfg → (Operand → AV) → AH → Option R
/-- One operation. -/
def evOpF (C : Cfg) (g : Operand → AV) (A : AH) (o : Op) : Option R := Op.rec (motive := fun _ => OpM)
  (fun x _ g A => some (.val (g x) A)) -- move
  (fun x _ g A => some (.val (g x) A)) -- assign
  (fun c a b _ g A => one (evPick (g c) (g a) (g b)) A)
  (fun t C _ A => two (evAlloc C.P A t))
  (fun t x _ g A => two (evBox A t (g x)))
  (fun t ps C g A => one (evBuild C.P t (evParts g ps.toList)) A)
  (fun t n ps C g A => two (evBuildSlice C.P A t n (evParts g ps.toList)))
  (fun t m k x C g A => upd (evUpdate C.P C.V A t (g m) (g k) (g x))) -- insert
  (fun t a C g A => one (evLoad C.P A t (g a)) A)
  (fun t a x C g A => upd (evStore C.P A t (g a) (g x)))
  (fun _ _ _ _ => none) -- ready
  (fun _ _ _ _ => none) -- waits
  (fun x _ g A => one (evNilCheck (g x)) A)
  (fun op t x y _ C g A => oneF (evBinF C.V C.P op t (g x) (g y)) A)
  (fun op _ x C g A => one (evUn C.V op (g x)) A)
  (fun s d x C g A => one (evConv C.V C.P s d (g x)) A)
  (fun _ _ _ _ _ => none) -- sliceToArrayPointer
  (fun t x C g A => one (evIface C.P t (g x)) A)
  (fun fn l m _ g A => some (.val (.func fn (mapG g l.toList) (mapG g m.toList)) A))
  (fun _ r _ _ A => two (evMakeMap A r))
  (fun t s C g A => two (evMakeChan C.P A t (g s)))
  (fun t l c C g A => two (evMakeSlice C.P A t (g l) (g c)))
  (fun t x lo hi mx C g A => one (evSlice C.P t (g x) (optG g lo) (optG g hi) (optG g mx)) A)
  (fun s x f C g A => one (evFieldAddr C.P s (g x) f) A)
  (fun t x f C g A => one (evField C.P t (g x) f) A)
  (fun t x i C g A => one (evIndexAddr C.P t (g x) (g i)) A)
  (fun t x i C g A => one (evIndex C.P t (g x) (g i)) A)
  (fun t x k ok C g A => one (evLookup C.P C.V A t (g x) (g k) ok) A)
  (fun t m k x C g A => upd (evUpdate C.P C.V A t (g m) (g k) (g x))) -- mapUpdate
  (fun _ _ _ _ _ _ => none) -- mapEntry
  (fun _ _ _ _ _ _ _ => none)
  (fun t x C g A => two (evRange C.P A t (g x)))
  (fun _ _ _ _ _ => none)
  (fun _ _ _ _ => none)
  (fun _ _ _ _ _ _ _ => none)
  (fun t n _ g A => one (evExtract (g t) n) A)
  (fun c C g A => evCall C g A c)
  (fun _ _ _ _ => none)
  (fun _ _ _ _ => none)
  (fun _ _ _ _ => none)
  (fun _ _ _ _ _ => none)
  (fun _ _ _ _ _ _ => none)
  (fun _ _ _ _ _ => none) o C g A
theorem evOpF_eq (C : Cfg) (g : Operand → AV) (A : AH) (o : Oper) : evOpF C g A o.op = evOp C g A o := by
  unfold evOp
  cases o.op <;> first
    | rfl
    | (show oneF (evBinF _ _ _ _ _ _) A = _; rw [evBinF_eq, oneF_eq])
def stepF (call : CallFn) (C : Cfg) (g : Operand → AV) (A : AH) (o : Oper) : Option (AV × AH) :=
  Option.rec (motive := fun _ => CallFn → AH → Option (AV × AH)) (fun _ _ => none) (fun q => R.rec (motive := fun _ => CallFn → AH → Option (AV × AH)) (fun r A' _ _ => some (r, A')) (fun f l call A => call f l A) q) (evOpF C g A o.op) call A
theorem stepF_eq (call : CallFn) (C : Cfg) (g : Operand → AV) (A : AH) (o : Oper) : stepF call C g A o = stepA call C g A o := by
  unfold stepF stepA
  rw [evOpF_eq]
  cases evOp C g A o with
  | none => rfl
  | some q => cases q <;> rfl
def boolF (a : AV) (want : Bool) : Option Bool := match a with
  | .bool b => some (match b, want with | true, true => true | false, false => true | _, _ => false)
  | .tuple _ => some false
  | _ => none
def guardGo (all : List Oper) (T : Tr AV) (p : Nat × Bool) : Option Bool :=
  Option.rec (motive := fun _ => Option Bool) none (fun q => Option.rec (motive := fun _ => Option Bool) none (fun d => Option.rec (motive := fun _ => Option Bool) none (fun a => boolF a p.2) (T.get d)) q.dst) (nth all p.1)
def guardF (all : List Oper) (T : Tr AV) (o : Oper) : Option Bool := Option.rec (motive := fun _ => List Oper → Tr AV → Option Bool) (fun _ _ => some true) (fun p all T => guardGo all T p) o.guard all T
theorem guardF_eq (all : List Oper) (T : Tr AV) (o : Oper) : guardF all T o = guardA all T o := by
  unfold guardF guardA
  cases o.guard with
  | none => rfl
  | some p =>
    obtain ⟨j, w⟩ := p
    show guardGo all T (j, w) = _
    unfold guardGo
    dsimp only
    cases nth all j with
    | none => rfl
    | some q =>
      dsimp only
      cases q.dst with
      | none => rfl
      | some d =>
        dsimp only
        cases T.get d with
        | none => rfl
        | some a => cases a <;> rfl
def putF (N : Nat) (T : Tr AV) (dst : Option Nat) (r : AV) : Option (Tr AV) := Option.rec (motive := fun _ => Option (Tr AV)) (some T) (fun d => Bool.rec (motive := fun _ => Option (Tr AV)) none (some (T.set r 12 d)) (Nat.ble (Nat.succ d) N)) dst
theorem putF_eq (N : Nat) (T : Tr AV) (dst : Option Nat) (r : AV) : putF N T dst r = putT N T dst r := by
  unfold putF putT
  cases dst with
  | none => rfl
  | some d =>
    show (Bool.rec none (some (T.set r 12 d)) (Nat.blt d N) : Option (Tr AV)) = _
    dsimp only
    cases Nat.blt d N <;> rfl
def guardBF (N : Nat) (all : List Oper) (T : Tr AV) (o : Oper) : Option Bool := Option.rec (motive := fun _ => Option Bool) (outside N all o) (fun t => some t) (guardF all T o)
theorem guardBF_eq (N : Nat) (all : List Oper) (T : Tr AV) (o : Oper) : guardBF N all T o = guardB N all T o := by
  unfold guardBF guardB
  rw [guardF_eq]
  cases guardA all T o <;> rfl
def putUF (N : Nat) (T : Tr AV) (dst : Option Nat) (r : AV) : Option (Tr AV) := Option.rec (motive := fun _ => Option (Tr AV)) (some T) (fun T' => some T') (putF N T dst r)
theorem putUF_eq (N : Nat) (T : Tr AV) (dst : Option Nat) (r : AV) : putUF N T dst r = putU N T dst r := by
  unfold putUF putU
  rw [putF_eq]
  cases putT N T dst r <;> rfl
def opGo (call : CallFn) (C : Cfg) (N : Nat) (all : List Oper) (o : Oper) (rest : St → Option St) (s : St) : Option St :=
  Option.rec (motive := fun _ => Option St) none (fun b => Bool.rec (motive := fun _ => Option St)
    (Option.rec (motive := fun _ => Option St) none (fun T' => rest ⟨T', s.A⟩) (putUF N s.T o.dst (.tuple [])))
    (Option.rec (motive := fun _ => Option St) none (fun q => Option.rec (motive := fun _ => Option St) none (fun T' => rest ⟨T', q.2⟩) (putUF N s.T o.dst q.1)) (stepF call C (valF C s.T) s.A o)) b) (guardBF N all s.T o)
def ops1F (call : CallFn) (C : Cfg) (N : Nat) (all : List Oper) (l : List Oper) : St → Option St := List.rec (motive := fun _ => St → Option St) (fun s => some s) (fun o _ ih => opGo call C N all o ih) l
theorem ops1F_eq (call : CallFn) (C : Cfg) (N : Nat) (all : List Oper) : ∀ l s, ops1F call C N all l s = ops1 call C N all l s
  | [], s => rfl
  | o :: l, s => by
    show opGo call C N all o (ops1F call C N all l) s = _
    unfold opGo ops1
    rw [guardBF_eq, valF_eq]
    cases guardB N all s.T o with
    | none => rfl
    | some b =>
      cases b with
      | false =>
        dsimp only
        rw [putUF_eq]
        cases putU N s.T o.dst (.tuple []) with
        | none => rfl
        | some T' => exact ops1F_eq call C N all l _
      | true =>
        dsimp only
        rw [stepF_eq]
        cases stepA call C (val C s.T) s.A o with
        | none => rfl
        | some q =>
          obtain ⟨r, A'⟩ := q
          dsimp only
          rw [putUF_eq]
          cases putU N s.T o.dst r with
          | none => rfl
          | some T' => exact ops1F_eq call C N all l _
def opGoD (call : CallFn) (C : Cfg) (N : Nat) (all : List Oper) (o : Oper) (rest : St → Option St) (s : St) : Option St :=
  Option.rec (motive := fun _ => Option St) none (fun b => Bool.rec (motive := fun _ => Option St)
    (Option.rec (motive := fun _ => Option St) none (fun T' => rest ⟨T', s.A⟩) (putF N s.T o.dst (.tuple [])))
    (Option.rec (motive := fun _ => Option St) none (fun q => Bool.rec (motive := fun _ => Option St) none (Option.rec (motive := fun _ => Option St) none (fun T' => rest ⟨T', ⟨q.2.next, s.A.low, q.2.h⟩⟩) (putF N s.T o.dst q.1)) (Nat.ble s.A.next q.2.low)) (stepF call C (valN C s.T (namesO all o)) ⟨s.A.next, s.A.next, s.A.h⟩ o)) b) (guardF all s.T o)
def opsDF (call : CallFn) (C : Cfg) (N : Nat) (all : List Oper) (l : List Oper) : St → Option St := List.rec (motive := fun _ => St → Option St) (fun s => some s) (fun o _ ih => opGoD call C N all o ih) l
theorem opsDF_eq (call : CallFn) (C : Cfg) (N : Nat) (all : List Oper) : ∀ l s, opsDF call C N all l s = opsD call C N all l s
  | [], s => rfl
  | o :: l, s => by
    show opGoD call C N all o (opsDF call C N all l) s = _
    unfold opGoD opsD
    rw [guardF_eq]
    cases guardA all s.T o with
    | none => rfl
    | some b =>
      cases b with
      | false =>
        dsimp only
        rw [putF_eq]
        cases putT N s.T o.dst (.tuple []) with
        | none => rfl
        | some T' => exact opsDF_eq call C N all l _
      | true =>
        dsimp only
        rw [stepF_eq]
        cases stepA call C (valN C s.T (namesO all o)) ⟨s.A.next, s.A.next, s.A.h⟩ o with
        | none => rfl
        | some q =>
          obtain ⟨r, A'⟩ := q
          dsimp only
          cases Nat.ble s.A.next A'.low with
          | false => rfl
          | true =>
            dsimp only
            rw [putF_eq]
            cases putT N s.T o.dst r with
            | none => rfl
            | some T' => exact opsDF_eq call C N all l _
/-- How a region is parted: how many may go in any order; whether all is well. -/
def plan (all : List Oper) : Option Nat := Bool.rec (motive := fun _ => Option Nat) none (Bool.rec (motive := fun _ => Option Nat) none (Bool.rec (motive := fun _ => Option Nat) none (some (tailK 0 (masks [] all))) (guardsIn (tailK 0 (masks [] all)) (all.take (tailK 0 (masks [] all))))) (allIx (fun j o => edgesOk j o.after.toList) 0 all)) (drawOk (all.take (tailK 0 (masks [] all))))
def drawF (call : CallFn) (C : Cfg) (N : Nat) (all : List Oper) (s : St) : Option St := Option.rec (motive := fun _ => Option St) none (fun k => Option.rec (motive := fun _ => Option St) none (fun s1 => ops1F call C N all (all.drop k) s1) (opsDF call C N (all.take k) (all.take k) s)) (plan all)
theorem drawF_eq (call : CallFn) (C : Cfg) (N : Nat) (all : List Oper) (s : St) : drawF call C N all s = drawRegion call C N all s := by
  unfold drawF plan drawRegion drawAt
  cases drawOk (all.take (tailK 0 (masks [] all))) with
  | false => rfl
  | true =>
    dsimp only
    cases allIx (fun j o => edgesOk j o.after.toList) 0 all with
    | false => rfl
    | true =>
      dsimp only
      cases guardsIn (tailK 0 (masks [] all)) (all.take (tailK 0 (masks [] all))) with
      | false => rfl
      | true =>
        dsimp only
        rw [opsDF_eq]
        cases opsD call C N (all.take (tailK 0 (masks [] all))) (all.take (tailK 0 (masks [] all))) s with
        | none => rfl
        | some s1 => exact ops1F_eq call C N all _ s1
def drawRF0 (call : CallFn) (C : Cfg) (N : Nat) (all : List Oper) (s : St) : Option St := Option.rec (motive := fun _ => Option St) (drawF call C N all s) (fun p => Option.rec (motive := fun _ => Option St) none (fun _ => drawF call C N (fixL p.1 p.2 all) s) (lateRun C N all s.T p.2)) (lateOf all)
theorem drawRF0_eq (call : CallFn) (C : Cfg) (N : Nat) (all : List Oper) (s : St) : drawRF0 call C N all s = drawR0 call C N all s := by
  unfold drawRF0 drawR0
  cases lateOf all with
  | none => exact drawF_eq call C N all s
  | some p =>
    obtain ⟨st, K⟩ := p
    dsimp only
    cases lateRun C N all s.T K with
    | none => rfl
    | some T' => exact drawF_eq call C N _ s
def drawRF (call : CallFn) (C : Cfg) (N : Nat) (all : List Oper) (s : St) : Option St := drawRF0 call C N (pre all) s
theorem drawRF_eq (call : CallFn) (C : Cfg) (N : Nat) (all : List Oper) (s : St) : drawRF call C N all s = drawR call C N all s := drawRF0_eq call C N (pre all) s
abbrev StepM := RunFn → Cfg → Nat → St → Option (Out × St)
def seqGo (x : Option (Out × St)) (rc : RunFn) (N : Nat) (b : Code) : Option (Out × St) := Option.rec (motive := fun _ => Option (Out × St)) none (fun q => Out.rec (motive := fun _ => RunFn → Nat → Code → St → Option (Out × St)) (fun rc N b s => rc N b s) (fun id _ _ _ s => some (.exit id, s)) (fun _ _ _ s => some (.ret, s)) q.1 rc N b q.2) x
def condGo (v : AV) (rc : RunFn) (N : Nat) (a b : Code) (s : St) : Option (Out × St) := match v with
  | .bool t => Bool.rec (motive := fun _ => Option (Out × St)) (rc N b s) (rc N a s) t
  | _ => none
def blockGo (x : Option (Out × St)) (id : Nat) : Option (Out × St) := Option.rec (motive := fun _ => Option (Out × St)) none (fun q => Out.rec (motive := fun _ => Nat → St → Option (Out × St)) (fun _ s => some (.normal, s)) (fun j id s => Bool.rec (motive := fun _ => Option (Out × St)) (some (.exit j, s)) (some (.normal, s)) (Nat.beq j id)) (fun _ s => some (.ret, s)) q.1 id q.2) x
def norm (x : Option St) : Option (Out × St) := Option.rec (motive := fun _ => Option (Out × St)) none (fun s => some (.normal, s)) x
def stepCF (rc : RunFn) (C : Cfg) (N : Nat) (c : Code) (s : St) : Option (Out × St) := Code.casesOn (motive := fun _ => StepM) c
  (fun _ _ _ s => some (.normal, s))
  (fun _ ops draw rc C N s => Bool.rec (motive := fun _ => Option (Out × St)) (norm (ops1F (callA rc C) C N ops.toList ops.toList s)) (norm (drawRF (callA rc C) C N ops.toList s)) draw)
  (fun a b rc _ N s => seqGo (rc N a s) rc N b)
  (fun x a b rc C N s => condGo (valF C s.T x) rc N a b s)
  (fun id b rc _ N s => blockGo (rc N b s) id)
  (fun b rc _ N s => seqGo (rc N b s) rc N (.loop b))
  (fun _ _ _ _ _ _ _ _ => none)
  (fun id _ _ _ s => some (.exit id, s))
  (fun _ _ _ _ _ => none)
  (fun _ _ _ _ s => some (.normal, s))
  (fun _ _ _ _ _ => none)
  (fun _ _ _ s => some (.ret, s))
  (fun _ _ _ _ _ => none) rc C N s
theorem stepCF_eq (rc : RunFn) (C : Cfg) (N : Nat) (c : Code) (s : St) : stepCF rc C N c s = stepC rc C N c s := by
  unfold stepC
  cases c with
  | region id ops draw =>
    cases draw with
    | false =>
      show norm (ops1F (callA rc C) C N ops.toList ops.toList s) = _
      rw [ops1F_eq]
      dsimp only
      cases ops1 (callA rc C) C N ops.toList ops.toList s <;> rfl
    | true =>
      show norm (drawRF (callA rc C) C N ops.toList s) = _
      rw [drawRF_eq]
      dsimp only
      cases drawR (callA rc C) C N ops.toList s <;> rfl
  | seq a b =>
    show seqGo (rc N a s) rc N b = _
    dsimp only
    cases rc N a s with
    | none => rfl
    | some q => obtain ⟨o, s'⟩ := q; cases o <;> rfl
  | cond x a b =>
    show condGo (valF C s.T x) rc N a b s = _
    rw [valF_eq]
    dsimp only
    cases val C s.T x with
    | bool t => cases t <;> rfl
    | _ => rfl
  | block id b =>
    show blockGo (rc N b s) id = _
    dsimp only
    cases rc N b s with
    | none => rfl
    | some q =>
      obtain ⟨o, s'⟩ := q
      cases o with
      | exit j =>
        show (Bool.rec (some (.exit j, s')) (some (.normal, s')) (natIs j id) : Option (Out × St)) = _
        dsimp only
        cases natIs j id <;> rfl
      | _ => rfl
  | loop b =>
    show seqGo (rc N b s) rc N (.loop b) = _
    dsimp only
    cases rc N b s with
    | none => rfl
    | some q => obtain ⟨o, s'⟩ := q; cases o <;> rfl
  | _ => rfl
def runF (C : Cfg) (n : Nat) : RunFn := Nat.rec (motive := fun _ => RunFn) (fun _ _ _ => none) (fun _ rc => stepCF rc C) n
theorem runF_eq (C : Cfg) : ∀ n, runF C n = run C n
  | 0 => rfl
  | n + 1 => by
    show stepCF (runF C n) C = stepC (run C n) C
    rw [runF_eq C n]
    funext N c s
    exact stepCF_eq _ _ _ _ _
end
end Go.Proofs.YtnikgcedifdaeaaGreatDoor.Ab
end

section
/- Answers in values. Plain. -/
namespace Go.Proofs.YtnikgcedifdaeaaGreatDoor.Ab
open Go
noncomputable section
def bytesOf (s : List Nat) : ByteArray := ⟨(s.map UInt8.ofNat).toArray⟩
def conc0 (ρ : Nat → Int) : AV → Value
  | .bool b => .bool b
  | .int k e => .int k (e.den ρ)
  | .str s => .string (bytesOf s)
  | .tok i => .string (tokS (ρ i))
  | .nilslice => .slice none 0 0
  | _ => .tuple #[]
def allB {α : Type} (p : α → Bool) : List α → Bool
  | [] => true
  | a :: r => bif p a then allB p r else false
def pl0 : AV → Bool
  | .bool _ | .int _ _ => true
  | .str s => allB (fun n => Nat.blt n 256) s
  | .tok _ | .nilslice => true
  | _ => false
theorem allB_get {α : Type} {p : α → Bool} : ∀ {l : List α}, allB p l = true → ∀ a ∈ l, p a = true
  | [], _, a, ha => by cases ha
  | b :: r, h, a, ha => by
    unfold allB at h
    cases hb : p b with
    | false => rw [hb] at h; cases h
    | true =>
      rw [hb] at h
      rcases List.mem_cons.1 ha with rfl | ha
      · exact hb
      · exact allB_get h a ha
theorem bytes_back : ∀ (s : List Nat), allB (fun n => Nat.blt n 256) s = true → (s.map UInt8.ofNat).map (·.toNat) = s
  | [], _ => rfl
  | n :: r, h => by
    unfold allB at h
    cases hb : Nat.blt n 256 with
    | false => rw [hb] at h; cases h
    | true =>
      rw [hb] at h
      have hn : n < 256 := Nat.le_of_ble_eq_true hb
      simp only [List.map_cons, bytes_back r h]
      congr 1
      simp [UInt8.ofNat, UInt8.toNat, BitVec.toNat_ofNat, Nat.mod_eq_of_lt hn]
theorem bytes_of (x : ByteArray) : bytesOf (x.data.toList.map (·.toNat)) = x := by
  unfold bytesOf
  have : (x.data.toList.map (·.toNat)).map UInt8.ofNat = x.data.toList := by
    rw [List.map_map]
    conv => rhs; rw [← List.map_id x.data.toList]
    congr 1
    funext u
    simp
  rw [this]
theorem str_iff {Γ : Gam} {s : List Nat} (h : allB (fun n => Nat.blt n 256) s = true) {v : Value} : VR Γ (.str s) v ↔ v = .string (bytesOf s) := by
  constructor
  · intro hv
    cases hv with
    | str e =>
      rw [← e, bytes_of]
  · rintro rfl
    refine .str ?_
    simp only [bytesOf]
    exact bytes_back s h
def conc1 (ρ : Nat → Int) : AV → Value
  | .agg l => .agg (l.map (conc0 ρ)).toArray
  | a => conc0 ρ a
def pl1 : AV → Bool
  | .agg l => allB pl0 l
  | a => pl0 a
def conc (ρ : Nat → Int) : AV → Value
  | .tuple l => .tuple (l.map (conc1 ρ)).toArray
  | a => conc1 ρ a
def pl : AV → Bool
  | .tuple l => allB pl1 l
  | a => pl1 a
section
variable {Γ : Gam}
theorem conc0_iff {a : AV} (h : pl0 a = true) {v : Value} : VR Γ a v ↔ v = conc0 Γ.ρ a := by
  cases a <;> first | (cases h; done) | skip
  · exact ⟨fun h => by cases h; rfl, fun h => h ▸ .bool⟩
  · exact ⟨fun h => by cases h with | int e => rw [e]; rfl, fun h => h ▸ .int rfl⟩
  · exact str_iff h
  · exact ⟨fun h => by cases h; rfl, fun h => h ▸ .nilslice⟩
  · exact ⟨fun h => by cases h with | tok e => rw [e]; rfl, fun h => h ▸ .tok rfl⟩
theorem vrs_iff {c : AV → Value} {p : AV → Bool} (hc : ∀ a v, p a = true → (VR Γ a v ↔ v = c a)) : ∀ (l : List AV) (m : List Value), allB p l = true → (VRs Γ l m ↔ m = l.map c)
  | [], m, _ => ⟨fun h => h.nil_of, fun h => h ▸ .nil⟩
  | a :: l, m, hl => by
    unfold allB at hl
    cases ha : p a with
    | false => rw [ha] at hl; cases hl
    | true =>
      rw [ha] at hl
      constructor
      · intro h
        obtain ⟨v, r, rfl, h1, h2⟩ := h.head
        rw [(hc a v ha).1 h1, (vrs_iff hc l r hl).1 h2]
        rfl
      · rintro rfl
        exact .cons ((hc a _ ha).2 rfl) ((vrs_iff hc l _ hl).2 rfl)
theorem conc1_iff {a : AV} (h : pl1 a = true) {v : Value} : VR Γ a v ↔ v = conc1 Γ.ρ a := by
  by_cases hag : ∃ l, a = .agg l
  rotate_left
  · have e1 : conc1 Γ.ρ a = conc0 Γ.ρ a := by
      cases a <;> first | rfl | exact absurd ⟨_, rfl⟩ hag
    have e2 : pl1 a = pl0 a := by
      cases a <;> first | rfl | exact absurd ⟨_, rfl⟩ hag
    rw [e1]
    rw [e2] at h
    exact conc0_iff h
  obtain ⟨l, rfl⟩ := hag
  constructor
  · intro hv
    obtain ⟨m, rfl, hm⟩ := hv.of_agg
    have := (vrs_iff (c := conc0 Γ.ρ) (fun a v h => conc0_iff h) l m.toList h).1 hm
    simp only [conc1]
    rw [← this]
  · rintro rfl
    exact .agg' ((vrs_iff (c := conc0 Γ.ρ) (fun a v h => conc0_iff h) l _ h).2 (by simp))
theorem conc_iff {a : AV} (h : pl a = true) {v : Value} : VR Γ a v ↔ v = conc Γ.ρ a := by
  by_cases hag : ∃ l, a = .tuple l
  rotate_left
  · have e1 : conc Γ.ρ a = conc1 Γ.ρ a := by
      cases a <;> first | rfl | exact absurd ⟨_, rfl⟩ hag
    have e2 : pl a = pl1 a := by
      cases a <;> first | rfl | exact absurd ⟨_, rfl⟩ hag
    rw [e1]
    rw [e2] at h
    exact conc1_iff h
  obtain ⟨l, rfl⟩ := hag
  constructor
  · intro hv
    obtain ⟨m, rfl, hm⟩ := hv.of_tuple
    have := (vrs_iff (c := conc1 Γ.ρ) (fun a v h => conc1_iff h) l m.toList h).1 hm
    simp only [conc]
    rw [← this]
  · rintro rfl
    exact .tuple' ((vrs_iff (c := conc1 Γ.ρ) (fun a v h => conc1_iff h) l _ h).2 (by simp))
theorem pl0_sc {a : AV} (h : pl0 a = true) : sc0 a = true := by cases a <;> first | rfl | cases h
theorem all0_of {l : List AV} (h : allB pl0 l = true) : all0 l = true := by
  induction l with
  | nil => rfl
  | cons a r ih =>
    unfold allB at h
    cases ha : pl0 a with
    | false => rw [ha] at h; cases h
    | true => rw [ha] at h; simp only [all0, pl0_sc ha, cond_true]; exact ih h
theorem pl1_sc {a : AV} (h : pl1 a = true) : sc1 a = true := by
  cases a <;> first | exact all0_of h | rfl | (cases h; done)
theorem all1_of {l : List AV} (h : allB pl1 l = true) : all1 l = true := by
  induction l with
  | nil => rfl
  | cons a r ih =>
    unfold allB at h
    cases ha : pl1 a with
    | false => rw [ha] at h; cases h
    | true => rw [ha] at h; simp only [all1, pl1_sc ha, cond_true]; exact ih h
theorem pl_sc {a : AV} (h : pl a = true) : scalar a = true := by
  cases a <;> first | exact all1_of h | exact all0_of h | rfl | (cases h; done)
end
theorem flat_of {l : List AV} (h : allB pl1 l = true) : flat l = true := by
  induction l with
  | nil => rfl
  | cons a r ih =>
    unfold allB at h
    cases ha : pl1 a with
    | false => rw [ha] at h; cases h
    | true =>
      rw [ha] at h
      have : scalar a = true := by
        cases a <;> first | exact pl1_sc ha | (cases ha; done)
      simp only [flat, this, cond_true]
      exact ih h
/-- The same function, told in values: what it answers, whatever the world; no trace. -/
structure VC (B : Base) (f : Nat) (vs : List Value) (r : Value) : Prop where
  has : ∃ fn c, B.P.funcs[f]? = some fn ∧ (fn.name == "runtime.NumGoroutine") = false ∧ fn.body = some c
  calls : ∀ w, B.G w → Calls B.P f vs.toArray w fun e w' => e = .returned r ∧ Same w w'
theorem Ans.vc {B : Base} {ρ : Nat → Int} {f : Nat} {l : List AV} {r : AV} (h : Ans B.P B.G ρ f l r) (hl : allB pl1 l = true) (hr : pl r = true) : VC B f (l.map (conc1 ρ)) (conc ρ r) :=
  ⟨h.has, fun w hG => Calls.mono (h.calls w _ hG ((vrs_iff (Γ := ⟨ρ, fun _ => none, w⟩) (c := conc1 ρ) (fun a v h => conc1_iff h) l _ hl).2 (by simp))) (by
    rintro e w' ⟨v, rfl, hv, hs⟩
    rw [(conc_iff hr).1 hv]
    exact ⟨rfl, hs⟩)⟩
theorem VC.ans {B : Base} {ρ : Nat → Int} {f : Nat} {l : List AV} {r : AV} {vs : List Value} {v : Value} (h : VC B f vs v) (hl : allB pl1 l = true) (hr : pl r = true) (e1 : vs = l.map (conc1 ρ)) (e2 : v = conc ρ r) : Ans B.P B.G ρ f l r := by
  refine ⟨h.has, pl_sc hr, flat_of hl, fun w us hG hvs => ?_⟩
  have := (vrs_iff (Γ := ⟨ρ, fun _ => none, w⟩) (c := conc1 ρ) (fun a v h => conc1_iff h) l us.toList hl).1 hvs
  obtain rfl : us = vs.toArray := by rw [e1, ← this]
  refine Calls.mono (h.calls w hG) ?_
  rintro e w' ⟨rfl, hs⟩
  exact ⟨v, rfl, (conc_iff hr).2 e2, hs⟩
def sameR : AV → AV → Bool
  | .tuple a, .tuple b => sames a b
  | a, b => same1 a b
theorem sameR_eq {a b : AV} (h : sameR a b = true) : a = b := by
  unfold sameR at h
  split at h
  · rw [sames_eq h]
  · exact same1_eq h
def isR (r : AV) : Option (AV × AH) → Bool
  | some (a, _) => sameR a r
  | none => false
/-- Just this. -/
def Base.goL (B : Base) (V : Env) (O : Oracle) (L : LOracle) (n f : Nat) (l : List AV) : Option (AV × AH) := callA (runF (B.cfg V O L) n) (B.cfg V O L) f l B.A0
def Base.go (B : Base) (V : Env) (O : Oracle) (n f : Nat) (l : List AV) : Option (AV × AH) := B.goL V O noL n f l
theorem Base.ansL {B : Base} (hB : B.Fit) {V : Env} {ρ : Nat → Int} (hV : V.Ok ρ) {O : Oracle} (hO : OkO B ρ O) {L : LOracle} (hL : OkL B ρ L) {n f : Nat} {l : List AV} {r : AV} (h : isR r (B.goL V O L n f l) = true) (hr : pl r = true) (hl : allB pl1 l = true) : Ans B.P B.G ρ f l r := by
  refine B.ans hB hV hO hL (n := n) (r := r) ?_ (pl_sc hr) (flat_of hl)
  unfold Base.goL at h
  rw [runF_eq] at h
  cases hx : callA (run (B.cfg V O L) n) (B.cfg V O L) f l B.A0 with
  | none => rw [hx] at h; cases h
  | some q =>
    rw [hx] at h
    rw [Option.map_some, sameR_eq (a := q.1) (b := r) h]
theorem Base.ansB {B : Base} (hB : B.Fit) {V : Env} {ρ : Nat → Int} (hV : V.Ok ρ) {O : Oracle} (hO : OkO B ρ O) {n f : Nat} {l : List AV} {r : AV} (h : isR r (B.go V O n f l) = true) (hr : pl r = true) (hl : allB pl1 l = true) : Ans B.P B.G ρ f l r :=
  B.ansL hB hV hO OkL.none h hr hl
/-- A row by the kernel. -/
theorem Base.lansB {B : Base} (hB : B.Fit) {V : Env} {ρ : Nat → Int} (hV : V.Ok ρ) {O : Oracle} (hO : OkO B ρ O) {L : LOracle} (hL : OkL B ρ L) {n f : Nat} {l : List AV} {x : LR} (h : isLR x B.A0.next (B.goL V O L n f l) = true) (hr : allB pl0 x.cs = true) (hl : allB pl1 l = true) (hb : x.box = none := by rfl) : LAns B.P B.G ρ f l x := by
  unfold Base.goL at h
  rw [runF_eq] at h
  exact B.lans hB hV hO hL (n := n) h (all0_of hr) (fun y hy => by rw [hb] at hy; cases hy) (flat_of hl)
/-- A struct with a row in it, by the kernel. -/
theorem Base.lansX {B : Base} (hB : B.Fit) {V : Env} {ρ : Nat → Int} (hV : V.Ok ρ) {O : Oracle} (hO : OkO B ρ O) {L : LOracle} (hL : OkL B ρ L) {n f : Nat} {l : List AV} {x : LR} {a1 a2 : List AV} (h : isLR x B.A0.next (B.goL V O L n f l) = true) (hr : allB pl0 x.cs = true) (hl : allB pl1 l = true) (hb : x.box = some (a1, a2)) (h1 : allB pl0 a1 = true) (h2 : allB pl0 a2 = true) : LAns B.P B.G ρ f l x := by
  unfold Base.goL at h
  rw [runF_eq] at h
  exact B.lans hB hV hO hL (n := n) h (all0_of hr) (fun y hy => by
    rw [hb] at hy
    obtain rfl := Option.some.inj hy
    exact ⟨all0_of h1, all0_of h2⟩) (flat_of hl)
/-- The unknowns, out of a list. -/
def rho (l : List Int) : Nat → Int := fun i => l.getD i 0
def inB : List (Int × Int) → List Int → Prop
  | [], _ => True
  | b :: r, l => (∃ a t, l = a :: t ∧ b.1 ≤ a ∧ a ≤ b.2 ∧ inB r t)
theorem inB_nil {l : List Int} : inB [] l := trivial
theorem inB_cons {x y a : Int} {r : List (Int × Int)} {t : List Int} (h0 : x ≤ a) (h1 : a ≤ y) (h : inB r t) : inB ((x, y) :: r) (a :: t) := ⟨a, t, rfl, h0, h1, h⟩
theorem inB_get : ∀ {bs : List (Int × Int)} {l : List Int} (i : Nat) (b : Int × Int), inB bs l → bs[i]? = some b → b.1 ≤ rho l i ∧ rho l i ≤ b.2
  | [], _, i, b, _, h => by simp at h
  | b' :: r, l, i, b, hl, h => by
    obtain ⟨a, t, rfl, h1, h2, h3⟩ := hl
    cases i with
    | zero => simp only [List.getElem?_cons_zero, Option.some.injEq] at h; subst h; exact ⟨h1, h2⟩
    | succ i =>
      simp only [List.getElem?_cons_succ] at h
      have := inB_get i b h3 h
      exact this
/-- What the evaluator knows of the unknowns. -/
theorem env_ok {bs : List (Int × Int)} {fs : List Lin} {ds : List (Lin × Nat × Nat)} {l : List Int} (h1 : inB bs l) (h2 : ∀ f ∈ fs, 0 ≤ f.den (rho l)) (h3 : ∀ t ∈ ds, 0 < t.2.1 ∧ rho l t.2.2 = t.1.den (rho l) / (t.2.1 : Int)) : (⟨bs, fs, ds⟩ : Env).Ok (rho l) :=
  ⟨fun i b h => inB_get i b h1 h, h2, fun t ht => .inr (h3 t ht)⟩
/-- The same, with sums that are not 0. -/
theorem env_okN {bs : List (Int × Int)} {fs : List Lin} {ns : List Lin} {l : List Int} (h1 : inB bs l) (h2 : ∀ f ∈ fs, 0 ≤ f.den (rho l)) (h3 : ∀ f ∈ ns, f.den (rho l) ≠ 0) : (⟨bs, fs, ns.map fun f => (f, 0, 0)⟩ : Env).Ok (rho l) :=
  ⟨fun i b h => inB_get i b h1 h, h2, fun t ht => by
    obtain ⟨f, hf, rfl⟩ := List.mem_map.1 ht
    exact .inl ⟨rfl, h3 f hf⟩⟩
end
end Go.Proofs.YtnikgcedifdaeaaGreatDoor.Ab
end

section
/- What hangs on a program's tables alone. Generic. -/
namespace Go.Proofs.YtnikgcedifdaeaaGreatDoor.Lift
open Go Go.Conc
set_option linter.unusedSimpArgs false
set_option linter.unusedVariables false
theorem tables_info {P' P : Program} (h : P'.toTables = P.toTables) (t : TypeId) : P'.info? t = P.info? t := by
  obtain ⟨a, b⟩ := P'; obtain ⟨c, d⟩ := P
  simp only at h
  subst h
  rfl
theorem tables_under {P' P : Program} (h : P'.toTables = P.toTables) (t : TypeId) : P'.underlying t = P.underlying t := by
  obtain ⟨a, b⟩ := P'; obtain ⟨c, d⟩ := P
  simp only at h
  subst h
  rfl
theorem tables_depth {P' P : Program} (h : P'.toTables = P.toTables) : P'.depth = P.depth := by
  obtain ⟨a, b⟩ := P'; obtain ⟨c, d⟩ := P
  simp only at h
  subst h
  rfl
theorem tables_uid {P' P : Program} (h : P'.toTables = P.toTables) (t : TypeId) : P'.underlyingId t = P.underlyingId t := by
  unfold Program.underlyingId
  rw [tables_info h]
theorem tables_alike {P' P : Program} (h : P'.toTables = P.toTables) : ∀ (n : Nat), P'.alikeButTags n = P.alikeButTags n := by
  intro n
  induction n with
  | zero => funext t u; rfl
  | succ n ih =>
    funext t u
    unfold Program.alikeButTags
    rw [ih]
    simp only [tables_info h]
theorem tables_stoodInAs {P' P : Program} (h : P'.toTables = P.toTables) (t : TypeId) : P'.stoodInAs t = P.stoodInAs t := by
  unfold Program.stoodInAs
  rw [tables_under h, tables_alike h, tables_depth h]
  simp only [tables_uid h, h]
theorem tables_stoodInHeld {P' P : Program} (h : P'.toTables = P.toTables) (t : TypeId) : P'.stoodInHeld t = P.stoodInHeld t := by
  unfold Program.stoodInHeld
  rw [tables_stoodInAs h, tables_info h]
theorem tables_ownRow {P' P : Program} (h : P'.toTables = P.toTables) (c : String × TypeId) : P'.ownRow c = P.ownRow c := by
  unfold Program.ownRow
  simp only [tables_info h, tables_under h, h]
theorem tables_packed {P' P : Program} (h : P'.toTables = P.toTables) (t : TypeId) : P'.packed t = P.packed t := by
  unfold Program.packed Program.packedAs
  simp only [tables_info h, tables_under h, tables_alike h, tables_depth h, tables_uid h, tables_ownRow h, h]
theorem tables_holdsPacked {P' P : Program} (h : P'.toTables = P.toTables) : ∀ (n : Nat), P'.holdsPacked n = P.holdsPacked n := by
  intro n
  induction n with
  | zero => funext t; rfl
  | succ n ih =>
    funext t
    unfold Program.holdsPacked
    rw [ih]
    simp only [tables_packed h, tables_under h]
theorem tables_eqGuard {P' P : Program} (h : P'.toTables = P.toTables) : ∀ (n : Nat), P'.eqGuardType n = P.eqGuardType n := by
  intro n
  induction n with
  | zero => funext t; rfl
  | succ n ih =>
    funext t
    unfold Program.eqGuardType
    rw [ih]
    simp only [tables_under h]
theorem tables_globals {P' P : Program} (h : P'.toTables = P.toTables) : P'.globals = P.globals := by rw [h]
theorem tables_cellsOf {P' P : Program} (h : P'.toTables = P.toTables) (t : TypeId) : P'.cellsOf t = P.cellsOf t := by
  unfold Program.cellsOf
  rw [tables_info h]
theorem tables_bytesOf {P' P : Program} (h : P'.toTables = P.toTables) (t : TypeId) : P'.bytesOf t = P.bytesOf t := by
  unfold Program.bytesOf
  rw [tables_info h]
theorem tables_byteOfCell {P' P : Program} (h : P'.toTables = P.toTables) : ∀ (n : Nat), byteOfCell P' n = byteOfCell P n := by
  intro n
  induction n with
  | zero => funext t o; rfl
  | succ n ih =>
    funext t o
    unfold byteOfCell
    rw [ih]
    simp only [tables_under h, tables_cellsOf h, tables_bytesOf h]

theorem tables_plainCell {P' P : Program} (h : P'.toTables = P.toTables) : ∀ (n : Nat), plainCell P' n = plainCell P n := by
  intro n
  induction n with
  | zero => funext t o; rfl
  | succ n ih =>
    funext t o
    unfold plainCell
    rw [ih]
    simp only [tables_under h, tables_cellsOf h]
theorem tables_cellHolding {P' P : Program} (h : P'.toTables = P.toTables) : ∀ (n : Nat), cellHolding P' n = cellHolding P n := by
  intro n
  induction n with
  | zero => funext t o; rfl
  | succ n ih =>
    funext t o
    unfold cellHolding
    rw [ih]
    simp only [tables_under h, tables_cellsOf h, tables_bytesOf h]
theorem tables_tight {P' P : Program} (h : P'.toTables = P.toTables) : ∀ (n : Nat), tight P' n = tight P n := by
  intro n
  induction n with
  | zero => funext t; rfl
  | succ n ih =>
    funext t
    unfold tight
    rw [ih]
    simp only [tables_under h, tables_bytesOf h]
theorem tables_seenCells {P' P : Program} (h : P'.toTables = P.toTables) (c : Array Value) (e : TypeId) : ∀ (n x s : Nat), seenCells P' c e n x s = seenCells P c e n x s := by
  intro n
  induction n with
  | zero => intros; rfl
  | succ n ih =>
    intro x s
    unfold seenCells
    simp only [ih, tables_bytesOf h, tables_cellsOf h, tables_cellHolding h, tables_depth h]
theorem tables_seen {P' P : Program} (h : P'.toTables = P.toTables) (w : World) (a : Addr) (u : TypeId) (k : Addr) (b : Bool) : w.seen P' a u k b = w.seen P a u k b := by
  unfold World.seen
  simp only [tables_plainCell h, tables_depth h, tables_byteOfCell h, tables_cellsOf h, tables_bytesOf h, tables_seenCells h]
theorem tables_viewStore {P' P : Program} (h : P'.toTables = P.toTables) (w : World) (a : Addr) (u : TypeId) (k : Addr) (v : Value) (b : Bool) : w.viewStore P' a u k v b = w.viewStore P a u k v b := by
  unfold World.viewStore
  simp only [tables_seen h, tables_tight h, tables_depth h]
end Go.Proofs.YtnikgcedifdaeaaGreatDoor.Lift
end

section
/- Two worlds walked alike: what one run does in a world whose shunned blocks are empty, a run in the true world does too, for the same answers of the tape; and it touches no shunned block plainly. Generic; no program in sight. -/
namespace Go.Proofs.YtnikgcedifdaeaaGreatDoor.Lift
open Go Go.Conc

set_option linter.unusedSimpArgs false
/-- The next m answers of the two tapes are the same. -/
def Tap (m : Nat) (w1 w2 : World) : Prop := ∀ k, k < m → w2.tape (w2.drawn + k) = w1.tape (w1.drawn + k)

/-- No variable that waits for its initialiser, no loop over a function. -/
def Obj.calm : Obj → Bool
  | .pending .. | .loop .. => false
  | _ => true

/-- The shadow's program and the true one; the true shunned blocks' type; blocks that are not shunned for sure. -/
structure Env where
  sh : Program
  re : Program
  E : TypeId
  n0 : Nat
  strict : Bool
  H0 : Array Obj
  ok : Nat → Prop
  bad0 : Nat → Prop
def Env.add (V : Env) (r : Nat) : Env := { V with ok := fun i => V.ok i ∨ i = r }
/-- What stands in the shadow for a shunned block: an iterator over no text: no operation of ours takes it (Next over a text is barred). -/
def hollow : Obj := .stringIter .empty 0

/-- The same object; or the same channel, but for how often it has been used. -/
def ObjEq (a b : Option Obj) : Prop := b = a ∨ ∃ cap buf cl tm s r s' r', a = some (.chan cap buf cl s r tm) ∧ b = some (.chan cap buf cl s' r' tm)

/-- What a shunned block of the phase's may be: a row with nothing frozen, or a channel. -/
def Bare (o : Obj) : Prop := (∃ c e, o = .cells c e (0, 0)) ∨ ∃ cap buf cl s r tm, o = .chan cap buf cl s r tm
/-- w1: the shadow; w2: the true world. -/
structure Sh (V : Env) (Bad : Nat → Prop) (w1 w2 : World) : Prop where
  tab : V.sh.toTables = V.re.toTables
  size : w2.heap.size = w1.heap.size
  same : ∀ i, ¬ Bad i → ObjEq (w1.heap[i]?) (w2.heap[i]?)
  poison : ∀ i, Bad i → w1.heap[i]? = some hollow
  real : ∀ i, Bad i → (V.n0 ≤ i ∧ ∃ o, w2.heap[i]? = some o ∧ Bare o) ∨ (i < V.n0 ∧ ∃ o, w2.heap[i]? = some o ∧ Obj.calm o = false)
  os : w2.os = w1.os
  output : w2.output = w1.output
  calm : ∀ (i : Nat) (o : Obj), w1.heap[i]? = some o → Obj.calm o = true
  exact : V.strict = true → w2.heap = w1.heap
  low : ∀ i, i < V.n0 → ¬ Bad i → w2.heap[i]? = w1.heap[i]?
  old : ∀ i, i < V.n0 → Bad i → w2.heap[i]? = V.H0[i]?

def BadLoc (n0 : Nat) (Bad : Nat → Prop) : Loc → Prop
  | .cell a => n0 ≤ a.block ∧ Bad a.block
  | .obj r => n0 ≤ r ∧ Bad r
  | _ => False

structure Out (V : Env) (Bad : Nat → Prop) (w1 w2 w1' w2' : World) (new : Array Event) : Prop where
  sh : Sh V Bad w1' w2'
  dr : w2'.drawn + w1.drawn = w2.drawn + w1'.drawn
  t2 : w2'.tape = w2.tape
  evs : ∀ e ∈ new, EvL (BadLoc V.n0 Bad) w2'.heap.size e

/-- A halt behind which the run may go on. -/
def Soft : Halt → Prop
  | .exit _ | .stuck _ => False
  | .unsupported (.initOrder _) => True
  | .unsupported _ => False
  | _ => True
/-- A halt as ours may be: a panic, a Goexit, or the run's end. -/
def Ready : Halt → Prop
  | .unsupported (.initOrder _) => False
  | .panic _ | .goexit | .exit _ | .stuck _ | .unsupported _ => True
  | _ => False

def Leads {α : Type} (V : Env) (Bad : Nat → Prop) (m : Nat) (w1 w2 : World) (es2 : Array Event) (r1 : Result α) (x2 : Result α × Array Event) : Prop :=
  match r1 with
  | .ok a w1' => w1'.drawn ≤ w1.drawn + m → ∃ w2' new, x2 = (.ok a w2', es2 ++ new) ∧ Out V Bad w1 w2 w1' w2' new
  | .halt h w1' => Soft h → w1'.drawn ≤ w1.drawn + m → Ready h ∧ ∃ w2' new, x2 = (.halt h w2', es2 ++ new) ∧ Out V Bad w1 w2 w1' w2' new

def Lead {α : Type} (V : Env) (s : Sem α) : Prop :=
  ∀ (Bad : Nat → Prop) (w1 w2 : World) (m : Nat) (es2 : Array Event), (∀ i, V.ok i → ¬ Bad i) → Sh V Bad w1 w2 → Tap m w1 w2 → Leads V Bad m w1 w2 es2 (s.run V.sh w1) (s.runT V.re w2 es2)

structure Later (w w' : World) : Prop where
  drawn : w.drawn ≤ w'.drawn
  tape : w'.tape = w.tape
  size : w.heap.size ≤ w'.heap.size
theorem Later.refl (w : World) : Later w w := ⟨Nat.le_refl _, rfl, Nat.le_refl _⟩
theorem Later.trans {a b c : World} (h : Later a b) (k : Later b c) : Later a c := ⟨Nat.le_trans h.drawn k.drawn, k.tape.trans h.tape, Nat.le_trans h.size k.size⟩

theorem later_ask {α : Type} : ∀ (x : Ask α) (w : World), Later w (w.ask x).2
  | .done _, w => Later.refl w
  | .ask what range k, w => by
    unfold World.ask
    simp only
    split
    · exact later_ask (k 0) w
    · exact Later.trans (b := { w with drawn := w.drawn + 1 }) ⟨Nat.le_succ _, rfl, Nat.le_refl _⟩ (later_ask _ _)

theorem later_sys (w : World) (c : Sys) : Later w (w.sys c).2 := by
  have h := later_ask (Kernel.perform c w.os) w
  unfold World.sys
  split
  · exact Later.refl w
  · rename_i r os w' heq
    rw [heq] at h
    exact ⟨h.drawn, h.tape, h.size⟩

def Result.world {α : Type} : Result α → World
  | .ok _ w | .halt _ w => w

theorem later_far {p : Program} {w w' : World} {a : Addr} {v : Value} {b : Bool} {l : List Addr} (h : w.farStore p a v b = .ok (w', l)) : Later w w' := by
  unfold World.farStore at h
  split at h
  · rename_i at_ u _
    cases hv : w.viewStore p at_ u a v b with
    | error e => rw [hv] at h; cases h
    | ok r =>
      rw [hv] at h
      obtain rfl : r = (w', l) := by simpa using h
      unfold World.viewStore at hv
      simp only [bind, Except.bind, pure, Except.pure] at hv
      repeat' (split at hv)
      all_goals first
        | (cases hv; done)
        | (simp only [Except.ok.injEq, Prod.mk.injEq] at hv; rw [← hv.1]; exact ⟨Nat.le_refl _, rfl, by simp⟩)
  · cases h

theorem later_run {α : Type} (P : Program) : ∀ (s : Sem α) (w : World), Later w (Result.world (s.run P w))
  | .pure a, w => Later.refl w
  | .load m a k, w => by
    simp only [Sem.run]
    split
    · exact later_run P _ _
    · split
      · exact later_run P _ _
      · exact Later.refl w
  | .store m a v k, w => by
    have base : Later w (Result.world (match w.cell? a with
      | some _ => if w.frozen? a then .halt (.unsupported (.unsafePointer "a write to bytes that a string shares")) w else k.run P (w.setCell a v)
      | none => match w.farStore P a v (m == .atomic) with
        | .ok (w, _) => k.run P w
        | .error h => .halt h w)) := by
      split
      · split
        · exact Later.refl w
        · exact Later.trans (b := w.setCell a v) ⟨Nat.le_refl _, rfl, by simp⟩ (later_run P _ _)
      · split
        · rename_i hf
          exact (later_far hf).trans (later_run P _ _)
        · exact Later.refl w
    cases v <;> first | exact base | exact Later.refl w
  | .new o k, w => by
    simp only [Sem.run]
    exact Later.trans (b := { w with heap := w.heap.push o }) ⟨Nat.le_refl _, rfl, by simp⟩ (later_run P _ _)
  | .shape r k, w => later_run P (k _) w
  | .freeze a n k, w => by
    simp only [Sem.run]
    refine Later.trans (b := w.freeze a n) ?_ (later_run P _ _)
    unfold World.freeze
    split
    · exact Later.refl w
    · exact ⟨Nat.le_refl _, rfl, by simp⟩
  | .frozen a k, w => later_run P (k _) w
  | .getObj r k, w => by
    simp only [Sem.run]
    split
    · exact Later.refl w
    · exact later_run P _ _
    · exact Later.refl w
  | .setObj r o k, w => by
    simp only [Sem.run]
    split
    · exact Later.refl w
    · exact Later.trans (b := { w with heap := w.heap.setIfInBounds r o }) ⟨Nat.le_refl _, rfl, by simp⟩ (later_run P _ _)
    · exact Later.refl w
  | .choose q k, w => by
    simp only [Sem.run]
    split
    · exact later_run P _ _
    · exact Later.trans (b := { w with drawn := w.drawn + 1 }) ⟨Nat.le_succ _, rfl, Nat.le_refl _⟩ (later_run P _ _)
  | .sys c k, w => by
    simp only [Sem.run]
    exact (later_sys w c).trans (later_run P _ _)
  | .program k, w => later_run P (k P) w
  | .mark m k, w => later_run P k w
  | .halt h, w => Later.refl w

section
variable {V : Env}

theorem Tap.mono {m m' : Nat} {w1 w2 : World} (h : Tap m w1 w2) (hm : m' ≤ m) : Tap m' w1 w2 := fun k hk => h k (by omega)

theorem Tap.next {m : Nat} {w1 w2 w1' w2' : World} (h : Tap m w1 w2) (l1 : Later w1 w1') (t2 : w2'.tape = w2.tape) (dr : w2'.drawn + w1.drawn = w2.drawn + w1'.drawn) :
    Tap (m - (w1'.drawn - w1.drawn)) w1' w2' := by
  intro k hk
  have := l1.drawn
  have h0 := h (w1'.drawn - w1.drawn + k) (by omega)
  rw [t2, l1.tape]
  rw [show w2'.drawn + k = w2.drawn + (w1'.drawn - w1.drawn + k) by omega, show w1'.drawn + k = w1.drawn + (w1'.drawn - w1.drawn + k) by omega]
  exact h0

theorem evL_grow {S : Loc → Prop} {B B' : Nat} (h : B ≤ B') {e : Event} (he : EvL S B e) : EvL S B' e := ⟨he.1, he.2.1, he.2.2.1, MemAct.low_mono h he.2.2.2⟩

theorem Out.trans {Bad : Nat → Prop} {w1 w2 v1 v2 u1 u2 : World} {n1 n2 : Array Event} (h : Out V Bad w1 w2 v1 v2 n1) (k : Out V Bad v1 v2 u1 u2 n2) (lu : Later v1 u1) : Out V Bad w1 w2 u1 u2 (n1 ++ n2) :=
  ⟨k.sh, by have := h.dr; have := k.dr; omega, k.t2.trans h.t2, fun e he => by
    rcases Array.mem_append.1 he with h1 | h1
    · exact evL_grow (by rw [h.sh.size, k.sh.size]; exact lu.size) (h.evs e h1)
    · exact k.evs e h1⟩

theorem Sh.add {r : Nat} {Bad : Nat → Prop} {w1 w2 : World} (h : Sh V Bad w1 w2) : Sh (V.add r) Bad w1 w2 := ⟨h.tab, h.size, h.same, h.poison, h.real, h.os, h.output, h.calm, h.exact, h.low, h.old⟩
theorem Sh.strip {r : Nat} {Bad : Nat → Prop} {w1 w2 : World} (h : Sh (V.add r) Bad w1 w2) : Sh V Bad w1 w2 := ⟨h.tab, h.size, h.same, h.poison, h.real, h.os, h.output, h.calm, h.exact, h.low, h.old⟩
theorem Out.strip {r : Nat} {Bad : Nat → Prop} {w1 w2 w1' w2' : World} {n : Array Event} (h : Out (V.add r) Bad w1 w2 w1' w2' n) : Out V Bad w1 w2 w1' w2' n := ⟨h.sh.strip, h.dr, h.t2, h.evs⟩
theorem Out.refl {Bad : Nat → Prop} {w1 w2 : World} (h : Sh V Bad w1 w2) : Out V Bad w1 w2 w1 w2 #[] := ⟨h, by omega, rfl, by simp⟩

theorem Lead.pure {α : Type} (a : α) : Lead V (Pure.pure a : Sem α) := by
  intro Bad w1 w2 m es2 hB hS hT
  exact fun _ => ⟨w2, #[], by simp [Pure.pure, Sem.runT, -Sem.runT_eq], Out.refl hS⟩

theorem Lead.bind {α β : Type} {x : Sem α} {f : α → Sem β} (hx : Lead V x) (hf : ∀ a, Lead V (f a)) : Lead V (x >>= f) := by
  intro Bad w1 w2 m es2 hB hS hT
  have h1 := hx Bad w1 w2 m es2 hB hS hT
  have l1 := later_run V.sh x w1
  show Leads V Bad m w1 w2 es2 ((x.bind f).run V.sh w1) ((x.bind f).runT V.re w2 es2)
  rw [Sem.run_bind' V.sh x f w1, Sem.runT_bind' V.re x f w2 es2]
  cases hr : x.run V.sh w1 with
  | ok a v1 =>
    rw [hr] at h1 l1
    simp only [Result.andThen]
    have l2 := later_run V.sh (f a) v1
    simp only [Leads] at h1
    simp only [Result.world] at l1
    have hl := l1.drawn
    cases hr2 : (f a).run V.sh v1 with
    | ok b u1 =>
      rw [hr2] at l2
      simp only [Result.world] at l2
      intro hm
      have := l2.drawn
      obtain ⟨v2, n1, e1, o1⟩ := h1 (by omega)
      have h2 := hf a Bad v1 v2 (m - (v1.drawn - w1.drawn)) (es2 ++ n1) hB o1.sh (hT.next l1 o1.t2 o1.dr)
      rw [hr2] at h2
      obtain ⟨u2, n2, e2, o2⟩ := h2 (by omega)
      refine ⟨u2, n1 ++ n2, ?_, o1.trans o2 l2⟩
      rw [e1]
      simp only
      rw [e2, Array.append_assoc]
    | halt h u1 =>
      rw [hr2] at l2
      simp only [Result.world] at l2
      intro hh hm
      have := l2.drawn
      obtain ⟨v2, n1, e1, o1⟩ := h1 (by omega)
      have h2 := hf a Bad v1 v2 (m - (v1.drawn - w1.drawn)) (es2 ++ n1) hB o1.sh (hT.next l1 o1.t2 o1.dr)
      rw [hr2] at h2
      obtain ⟨rd, u2, n2, e2, o2⟩ := h2 hh (by omega)
      refine ⟨rd, u2, n1 ++ n2, ?_, o1.trans o2 l2⟩
      rw [e1]
      simp only
      rw [e2, Array.append_assoc]
  | halt h v1 =>
    rw [hr] at h1
    simp only [Result.andThen]
    intro hh hm
    obtain ⟨rd, v2, n1, e1, o1⟩ := h1 hh hm
    exact ⟨rd, v2, n1, by rw [e1], o1⟩

theorem Lead.map {α β : Type} {x : Sem α} {f : α → β} (hx : Lead V x) : Lead V (f <$> x) := Lead.bind (f := fun a => Pure.pure (f a)) hx fun _ => Lead.pure _

theorem Lead.soft {α : Type} (h : Halt) (hr : Ready h := by trivial) : Lead V (.halt h : Sem α) := by
  intro Bad w1 w2 m es2 hB hS hT
  exact fun _ _ => ⟨hr, w2, #[], by simp [Sem.runT, -Sem.runT_eq], Out.refl hS⟩

theorem block_lt {w : World} {a : Addr} {v : Value} (hc : w.cell? a = some v) : a.block < w.heap.size := by
  unfold World.cell? at hc
  split at hc
  · rename_i h
    exact (Array.getElem?_eq_some_iff.1 h).1
  · cases hc
theorem Sh.notBad_of_cell {Bad : Nat → Prop} {w1 w2 : World} (h : Sh V Bad w1 w2) {a : Addr} {v : Value} (hc : w1.cell? a = some v) : ¬ Bad a.block := by
  intro hb
  unfold World.cell? at hc
  rw [h.poison _ hb] at hc
  simp [hollow] at hc

theorem Sh.cell {Bad : Nat → Prop} {w1 w2 : World} (h : Sh V Bad w1 w2) {a : Addr} (hb : ¬ Bad a.block) : w2.cell? a = w1.cell? a := by
  unfold World.cell?
  rcases h.same _ hb with e | ⟨cap, buf, cl, tm, s, r, s', r', e1, e2⟩
  · rw [e]
  · rw [e1, e2]
theorem Sh.frozen {Bad : Nat → Prop} {w1 w2 : World} (h : Sh V Bad w1 w2) (a : Addr) : w2.frozen? a = w1.frozen? a := by
  unfold World.frozen?
  by_cases hb : Bad a.block
  · rcases h.real _ hb with ⟨_, o, h2, h3⟩ | ⟨_, o, h2, h3⟩
    · rw [h.poison _ hb, h2]
      rcases h3 with ⟨c, e, rfl⟩ | ⟨cap, buf, cl, s, r, tm, rfl⟩ <;> simp [hollow]
    · rw [h.poison _ hb, h2]
      cases o <;> first | rfl | cases h3
  · rcases h.same _ hb with e | ⟨cap, buf, cl, tm, s, r, s', r', e1, e2⟩
    · rw [e]
    · rw [e1, e2]

theorem Sh.lt {Bad : Nat → Prop} {w1 w2 : World} (h : Sh V Bad w1 w2) {i : Nat} {o : Obj} (hc : w1.heap[i]? = some o) : i < w2.heap.size := by
  rw [h.size]
  exact (Array.getElem?_eq_some_iff.1 hc).1

theorem seen_cells {p : Program} {w : World} {at_ : Addr} {u : TypeId} {k : Addr} {b : Bool} {r : Array Value × TypeId × (Nat × Nat) × Nat × Value × List (Nat × Nat × List UInt8)} (h : w.seen p at_ u k b = .ok r) :
    w.heap[at_.block]? = some (.cells r.1 r.2.1 r.2.2.1) := by
  unfold World.seen at h
  simp only [bind, Except.bind, pure, Except.pure] at h
  repeat' (split at h)
  all_goals first
    | (cases h; done)
    | (simp only [Except.ok.injEq] at h; subst h; assumption)
theorem seen_heap {p : Program} {w1 w2 : World} {at_ : Addr} (e : w2.heap[at_.block]? = w1.heap[at_.block]?) (u : TypeId) (k : Addr) (b : Bool) : w2.seen p at_ u k b = w1.seen p at_ u k b := by
  unfold World.seen
  rw [e]
theorem Sh.seen {Bad : Nat → Prop} {w1 w2 : World} (h : Sh V Bad w1 w2) {at_ : Addr} {u : TypeId} {k : Addr} {b : Bool} {r : Array Value × TypeId × (Nat × Nat) × Nat × Value × List (Nat × Nat × List UInt8)} (hr : w1.seen V.sh at_ u k b = .ok r) :
    w2.seen V.re at_ u k b = .ok r ∧ ¬ Bad at_.block ∧ at_.block < w2.heap.size := by
  have hc := seen_cells hr
  have hb : ¬ Bad at_.block := fun hb => by
    rw [h.poison _ hb] at hc
    cases hc
  refine ⟨?_, hb, h.lt hc⟩
  have e : w2.heap[at_.block]? = w1.heap[at_.block]? := by
    rcases h.same _ hb with e | ⟨cap, buf, cl, tm, s, r, s', r', e1, e2⟩
    · exact e
    · rw [e1] at hc
      cases hc
  rw [seen_heap e, ← tables_seen h.tab]
  exact hr
theorem Sh.viewLoad {Bad : Nat → Prop} {w1 w2 : World} (h : Sh V Bad w1 w2) {at_ : Addr} {u : TypeId} {k : Addr} {b : Bool} {r : Value × List Addr} (hr : w1.viewLoad V.sh at_ u k b = .ok r) :
    w2.viewLoad V.re at_ u k b = .ok r ∧ ∀ a ∈ r.2, a.block = at_.block ∧ ¬ Bad at_.block ∧ at_.block < w2.heap.size := by
  unfold World.viewLoad at hr ⊢
  cases hs : w1.seen V.sh at_ u k b with
  | error e => rw [hs] at hr; cases hr
  | ok x =>
    obtain ⟨h1, h2, h3⟩ := h.seen hs
    rw [hs] at hr
    rw [h1]
    refine ⟨hr, fun a ha => ⟨?_, h2, h3⟩⟩
    obtain ⟨c, e, f, fi, like, cells⟩ := x
    simp only [bind, Except.bind, pure, Except.pure] at hr
    repeat' (split at hr)
    all_goals first
      | (cases hr; done)
      | (simp only [Except.ok.injEq] at hr
         subst hr
         obtain ⟨x, _, rfl⟩ := List.mem_map.1 ha
         rfl)
theorem Sh.viewStore {Bad : Nat → Prop} {w1 w2 : World} (h : Sh V Bad w1 w2) {at_ : Addr} {u : TypeId} {k : Addr} {v : Value} {b : Bool} {w1' : World} {l : List Addr} (hr : w1.viewStore V.sh at_ u k v b = .ok (w1', l)) :
    ∃ c e f, w1' = { w1 with heap := w1.heap.setIfInBounds at_.block (.cells c e f) } ∧ w2.viewStore V.re at_ u k v b = .ok ({ w2 with heap := w2.heap.setIfInBounds at_.block (.cells c e f) }, l) ∧ ¬ Bad at_.block ∧ at_.block < w2.heap.size ∧ ∀ a ∈ l, a.block = at_.block := by
  rw [tables_viewStore h.tab] at hr
  unfold World.viewStore at hr ⊢
  cases hs : w1.seen V.sh at_ u k b with
  | error e =>
    rw [tables_seen h.tab] at hs
    simp only [bind, Except.bind, pure, Except.pure, hs] at hr
    repeat' (split at hr)
    all_goals cases hr
  | ok x =>
    obtain ⟨h1, h2, h3⟩ := h.seen hs
    rw [tables_seen h.tab] at hs
    obtain ⟨c, e, f, fi, like, cells⟩ := x
    simp only [bind, Except.bind, pure, Except.pure, hs] at hr
    simp only [bind, Except.bind, pure, Except.pure, h1]
    split at hr
    · cases hr
    · rename_i ht
      rw [if_neg ht]
      split at hr
      · rename_i bytes hbs
        split at hr
        · cases hr
        · rename_i hl
          rw [if_neg hl]
          split at hr
          · cases hr
          · rename_i c' hc'
            simp only [Except.ok.injEq, Prod.mk.injEq] at hr
            obtain ⟨rfl, rfl⟩ := hr
            refine ⟨c', e, f, rfl, ?_, h2, h3, ?_⟩
            · first | rfl | (simp only [hc']; done) | rw [hc']
            · intro a ha
              obtain ⟨x, _, rfl⟩ := List.mem_map.1 ha
              rfl
      · cases hr
theorem farLoad_view {p : Program} {w : World} {a at_ : Addr} {u : TypeId} (b : Bool) (h : w.heap[a.block]? = some (.view at_ u)) :
    w.farLoad p a b = match w.viewLoad p at_ u a b with
      | .ok r => .ok r
      | .error why => .error (.unsupported (.unsafePointer why)) := by
  unfold World.farLoad
  rw [h]
  rfl
theorem farLoad_no {p : Program} {w : World} {a : Addr} (b : Bool) (h : ∀ at_ u, w.heap[a.block]? ≠ some (.view at_ u)) :
    w.farLoad p a b = .error (w.noCell a "load: no such cell") := by
  unfold World.farLoad
  split
  · rename_i heq
    exact absurd heq (h _ _)
  · rfl
theorem farStore_view {p : Program} {w : World} {a at_ : Addr} {u : TypeId} (v : Value) (b : Bool) (h : w.heap[a.block]? = some (.view at_ u)) :
    w.farStore p a v b = match w.viewStore p at_ u a v b with
      | .ok r => .ok r
      | .error why => .error (.unsupported (.unsafePointer why)) := by
  unfold World.farStore
  rw [h]
  rfl
theorem farStore_no {p : Program} {w : World} {a : Addr} (v : Value) (b : Bool) (h : ∀ at_ u, w.heap[a.block]? ≠ some (.view at_ u)) :
    w.farStore p a v b = .error (w.noCell a "store: no such cell") := by
  unfold World.farStore
  split
  · rename_i heq
    exact absurd heq (h _ _)
  · rfl
theorem evL_cell {Bad : Nat → Prop} {n0 B : Nat} {wr sy : Bool} {a : Addr} (hb : ¬ Bad a.block) (hr : a.block < B) : EvL (BadLoc n0 Bad) B ⟨.cell a, wr, sy⟩ := by
  refine ⟨fun x hx hs => ?_, by simp, by simp, ?_⟩
  · have : x.loc = .cell a := by
      cases wr <;> cases sy <;> simp [MemAct.ofEvent, MemAct.touch?] at hx <;> rw [← hx]
    rw [this] at hs
    exact absurd hs.2 hb
  · cases wr <;> cases sy <;> exact hr

theorem Lead.load (a : Addr) (md : Mode) : Lead V (Go.load a md) := by
  intro Bad w1 w2 m es2 hB hS hT
  unfold Go.load
  simp only [Sem.run]
  cases hc : w1.cell? a with
  | some v =>
    have hb := hS.notBad_of_cell hc
    have hc2 : w2.cell? a = some v := (hS.cell hb).trans hc
    intro _
    refine ⟨w2, #[⟨.cell a, false, md == .atomic⟩], by simp [Sem.runT, hc2, -Sem.runT_eq], hS, by omega, rfl, ?_⟩
    intro e he
    obtain rfl : e = ⟨.cell a, false, md == .atomic⟩ := by simpa using he
    refine ⟨fun x hx hs => ?_, by simp, by simp, ?_⟩
    · have hx' : x = ⟨.cell a, false, if (md == .atomic) = true then .atomic else .plain⟩ := by
        simpa [MemAct.ofEvent, MemAct.touch?] using hx.symm
      subst hx'
      exact absurd hs.2 hb
    · exact block_lt hc2
  | none =>
    simp only
    have hno : ∀ (s : String), ¬ Soft (w1.noCell a s) := fun s => by
      unfold World.noCell
      split
      · rename_i heq
        have := hS.calm _ _ heq
        cases this
      · simp [Soft]
      · simp [Soft]
    by_cases hv : ∃ at_ u, w1.heap[a.block]? = some (.view at_ u)
    · obtain ⟨at_, u, ho⟩ := hv
      · rw [farLoad_view _ ho]
        cases hf : w1.viewLoad V.sh at_ u a (md == Mode.atomic) with
        | error e => exact fun h0 => absurd h0 (by simp [Soft])
        | ok r =>
          obtain ⟨h1, h2⟩ := hS.viewLoad hf
          have hb : ¬ Bad a.block := fun hb => by
            rw [hS.poison _ hb] at ho
            cases ho
          have ho2 : w2.heap[a.block]? = some (.view at_ u) := by
            rcases hS.same _ hb with e | ⟨cap, buf, cl, tm, s, r, s', r', e1, e2⟩
            · rw [e, ho]
            · rw [e1] at ho
              cases ho
          have hc2 : w2.cell? a = none := (hS.cell hb).trans hc
          intro _
          refine ⟨w2, (r.2.map (fun x => (⟨.cell x, false, md == Mode.atomic⟩ : Event))).toArray, ?_, hS, by omega, rfl, ?_⟩
          · simp [Sem.runT, hc2, farLoad_view _ ho2, h1, -Sem.runT_eq]
          · intro e he
            obtain ⟨x, hx, rfl⟩ := List.mem_map.1 (by simpa using he : e ∈ r.2.map (fun x => (⟨.cell x, false, md == Mode.atomic⟩ : Event)))
            obtain ⟨e1, e2, e3⟩ := h2 x hx
            exact evL_cell (e1 ▸ e2) (by rw [e1]; exact e3)
    · rw [farLoad_no _ (fun at_ u e => hv ⟨at_, u, e⟩)]
      exact fun h0 => absurd h0 (hno _)

theorem Sh.setObj {Bad : Nat → Prop} {w1 w2 : World} (h : Sh V Bad w1 w2) {r : Nat} (o : Obj) (hb : ¬ Bad r) (ho : Obj.calm o = true) : Sh V Bad { w1 with heap := w1.heap.setIfInBounds r o } { w2 with heap := w2.heap.setIfInBounds r o } := by
  refine ⟨h.tab, by simp [h.size], ?_, ?_, ?_, h.os, h.output, ?_, fun hs => by simp only [h.exact hs], ?_, ?_⟩
  · intro i hi
    simp only [Array.getElem?_setIfInBounds, h.size]
    split
    · split <;> exact .inl rfl
    · exact h.same i hi
  · intro i hi
    have hne : r ≠ i := fun e => hb (e ▸ hi)
    simp only [Array.getElem?_setIfInBounds]
    rw [if_neg hne]
    exact h.poison i hi
  · intro i hi
    have hne : r ≠ i := fun e => hb (e ▸ hi)
    simp only [Array.getElem?_setIfInBounds]
    rw [if_neg hne]
    exact h.real i hi
  · intro i o' ho'
    simp only [Array.getElem?_setIfInBounds] at ho'
    split at ho'
    · split at ho'
      · rw [← Option.some.inj ho']; exact ho
      · cases ho'
    · exact h.calm i o' ho'
  · intro i h1 h2
    simp only [Array.getElem?_setIfInBounds, h.size]
    split
    · rfl
    · exact h.low i h1 h2
  · intro i h1 hi
    have hne : r ≠ i := fun e => hb (e ▸ hi)
    simp only [Array.getElem?_setIfInBounds]
    rw [if_neg hne]
    exact h.old i h1 hi

theorem Sh.setCell {Bad : Nat → Prop} {w1 w2 : World} (h : Sh V Bad w1 w2) {a : Addr} (v : Value) (hb : ¬ Bad a.block) : Sh V Bad (w1.setCell a v) (w2.setCell a v) := by
  have hm : ∀ (w : World) (i : Nat), (w.setCell a v).heap[i]? = if i = a.block then (w.heap[i]?).map (fun o => match o with
      | .cells c elem frozen => .cells (if a.spot.isSome then c else c.setIfInBounds a.off v) elem frozen
      | o => o) else w.heap[i]? := by
    intro w i
    unfold World.setCell
    simp only [Array.getElem?_modify]
    by_cases hi : a.block = i
    · subst hi
      rw [if_pos rfl, if_pos rfl]
      cases w.heap[a.block]? with
      | none => rfl
      | some o => cases o <;> rfl
    · rw [if_neg hi, if_neg (fun e => hi e.symm)]
  refine ⟨h.tab, ?_, ?_, ?_, ?_, h.os, h.output, ?_, fun hs => by unfold World.setCell; simp only [h.exact hs], ?_, ?_⟩
  · simp [h.size]
  · intro i hi
    rw [hm, hm]
    rcases h.same i hi with e | ⟨cap, buf, cl, tm, s, r, s', r', e1, e2⟩
    · rw [e]; exact .inl rfl
    · rw [e1, e2]
      right
      split <;> exact ⟨cap, buf, cl, tm, s, r, s', r', rfl, rfl⟩
  · intro i hi
    have hne : i ≠ a.block := fun e => hb (e ▸ hi)
    rw [hm, if_neg hne]
    exact h.poison i hi
  · intro i hi
    have hne : i ≠ a.block := fun e => hb (e ▸ hi)
    rw [hm, if_neg hne]
    exact h.real i hi
  · intro i o ho
    rw [hm] at ho
    split at ho
    · obtain ⟨o', ho', rfl⟩ := Option.map_eq_some_iff.1 ho
      have := h.calm i o' ho'
      cases o' <;> simp_all [Obj.calm]
    · exact h.calm i o ho
  · intro i h1 h2
    rw [hm, hm, h.low i h1 h2]
  · intro i h1 hi
    have hne : i ≠ a.block := fun e => hb (e ▸ hi)
    rw [hm, if_neg hne]
    exact h.old i h1 hi

theorem runT_store_eq (P : Program) (w : World) (a : Addr) (v : Value) (md : Mode) (es : Array Event) (hv : ∀ c, v ≠ .agg c) (hv2 : ∀ c, v ≠ .tuple c) (k : Sem Unit) :
    (Sem.store md a v k).runT P w es = match w.cell? a with
    | some _ =>
      if w.frozen? a then (.halt (.unsupported (.unsafePointer "a write to bytes that a string shares")) w, es)
      else k.runT P (w.setCell a v) (es.push ⟨.cell a, true, md == .atomic⟩)
    | none => match w.farStore P a v (md == Mode.atomic) with
      | .ok (w, touched) => k.runT P w (es ++ touched.toArray.map (⟨.cell ·, true, md == .atomic⟩))
      | .error h => (.halt h w, es) := by
  cases v <;> first | exact absurd rfl (hv _) | exact absurd rfl (hv2 _) | rfl

theorem run_store_eq (P : Program) (w : World) (a : Addr) (v : Value) (md : Mode) (hv : ∀ c, v ≠ .agg c) (hv2 : ∀ c, v ≠ .tuple c) (k : Sem Unit) :
    (Sem.store md a v k).run P w = match w.cell? a with
    | some _ => if w.frozen? a then .halt (.unsupported (.unsafePointer "a write to bytes that a string shares")) w else k.run P (w.setCell a v)
    | none => match w.farStore P a v (md == Mode.atomic) with
      | .ok (w, _) => k.run P w
      | .error h => .halt h w := by
  cases v <;> first | exact absurd rfl (hv _) | exact absurd rfl (hv2 _) | rfl

theorem Lead.store (a : Addr) (v : Value) (md : Mode) : Lead V (Go.store a v md) := by
  intro Bad w1 w2 m es2 hB hS hT
  unfold Go.store
  by_cases hv : (∃ c, v = .agg c) ∨ (∃ c, v = .tuple c)
  · have : ∀ (Q : Program) (w : World), (Sem.store md a v (.pure ())).run Q w = .halt (.stuck "store: not the value of one cell") w := by
      intro Q w
      rcases hv with ⟨c, rfl⟩ | ⟨c, rfl⟩ <;> rfl
    rw [this]
    exact fun h0 => absurd h0 (by simp [Soft])
  have hv1 : ∀ c, v ≠ .agg c := fun c e => hv (.inl ⟨c, e⟩)
  have hv2 : ∀ c, v ≠ .tuple c := fun c e => hv (.inr ⟨c, e⟩)
  rw [run_store_eq V.sh w1 a v md hv1 hv2, runT_store_eq V.re w2 a v md es2 hv1 hv2]
  cases hc : w1.cell? a with
  | some u =>
    have hb := hS.notBad_of_cell hc
    have hc2 : w2.cell? a = some u := (hS.cell hb).trans hc
    simp only [hc2, hS.frozen a]
    cases hf : w1.frozen? a with
    | true => exact fun h0 => absurd h0 (by simp [Soft])
    | false =>
      simp only [Bool.false_eq_true, ↓reduceIte, Sem.run]
      intro _
      refine ⟨w2.setCell a v, #[⟨.cell a, true, md == .atomic⟩], by simp [Sem.runT, -Sem.runT_eq], hS.setCell v hb, by show w2.drawn + w1.drawn = w2.drawn + w1.drawn; rfl, rfl, ?_⟩
      intro e he
      obtain rfl : e = ⟨.cell a, true, md == .atomic⟩ := by simpa using he
      refine ⟨fun x hx hs => ?_, by simp, by simp, ?_⟩
      · have hx' : x = ⟨.cell a, true, if (md == .atomic) = true then .atomic else .plain⟩ := by
          simpa [MemAct.ofEvent, MemAct.touch?] using hx.symm
        subst hx'
        exact absurd hs.2 hb
      · have h1 : a.block < w2.heap.size := block_lt hc2
        have h2 : (w2.setCell a v).heap.size = w2.heap.size := by simp
        rw [h2]
        exact h1
  | none =>
    simp only
    have hno : ∀ (s : String), ¬ Soft (w1.noCell a s) := fun s => by
      unfold World.noCell
      split
      · rename_i heq
        have := hS.calm _ _ heq
        cases this
      · simp [Soft]
      · simp [Soft]
    by_cases hv : ∃ at_ u, w1.heap[a.block]? = some (.view at_ u)
    · obtain ⟨at_, u, ho⟩ := hv
      · rw [farStore_view _ _ ho]
        cases hf : w1.viewStore V.sh at_ u a v (md == Mode.atomic) with
        | error e => exact fun h0 => absurd h0 (by simp [Soft])
        | ok r =>
          obtain ⟨w1', l⟩ := r
          obtain ⟨c, e, f, rfl, h1, h2, h3, h4⟩ := hS.viewStore hf
          have hb : ¬ Bad a.block := fun hb => by
            rw [hS.poison _ hb] at ho
            cases ho
          have ho2 : w2.heap[a.block]? = some (.view at_ u) := by
            rcases hS.same _ hb with e | ⟨cap, buf, cl, tm, s, r, s', r', e1, e2⟩
            · rw [e, ho]
            · rw [e1] at ho
              cases ho
          have hc2 : w2.cell? a = none := (hS.cell hb).trans hc
          simp only [hc2, farStore_view _ _ ho2, h1, Sem.run]
          intro _
          refine ⟨_, (l.map (fun x => (⟨.cell x, true, md == Mode.atomic⟩ : Event))).toArray, ?_, hS.setObj (.cells c e f) h2 rfl, by show w2.drawn + w1.drawn = w2.drawn + w1.drawn; rfl, rfl, ?_⟩
          · simp [Sem.runT, -Sem.runT_eq]
          · intro e' he
            obtain ⟨x, hx, rfl⟩ := List.mem_map.1 (by simpa using he : e' ∈ l.map (fun x => (⟨.cell x, true, md == Mode.atomic⟩ : Event)))
            have e1 := h4 x hx
            exact evL_cell (e1 ▸ h2) (by rw [e1]; simpa using h3)
    · rw [farStore_no _ _ (fun at_ u e => hv ⟨at_, u, e⟩)]
      exact fun h0 => absurd h0 (hno _)

theorem Sh.push {Bad : Nat → Prop} {w1 w2 : World} (h : Sh V Bad w1 w2) (o : Obj) (ho : Obj.calm o = true) : Sh V Bad { w1 with heap := w1.heap.push o } { w2 with heap := w2.heap.push o } := by
  have hlt : ∀ i, Bad i → i < w1.heap.size := fun i hi => (Array.getElem?_eq_some_iff.1 (h.poison i hi)).1
  refine ⟨h.tab, by simp [h.size], ?_, ?_, ?_, h.os, h.output, ?_, fun hs => by simp only [h.exact hs], ?_, ?_⟩
  · intro i hi
    simp only [Array.getElem?_push, h.size]
    split
    · exact .inl rfl
    · exact h.same i hi
  · intro i hi
    have := hlt i hi
    simp only [Array.getElem?_push]
    rw [if_neg (by omega)]
    exact h.poison i hi
  · intro i hi
    have := hlt i hi
    simp only [Array.getElem?_push]
    rw [if_neg (by rw [h.size]; omega)]
    exact h.real i hi
  · intro i o' ho'
    simp only [Array.getElem?_push] at ho'
    split at ho'
    · rw [← Option.some.inj ho']; exact ho
    · exact h.calm i o' ho'
  · intro i h1 h2
    simp only [Array.getElem?_push, h.size]
    split
    · rfl
    · exact h.low i h1 h2
  · intro i h1 hi
    have := hlt i hi
    simp only [Array.getElem?_push]
    rw [if_neg (by rw [h.size]; omega)]
    exact h.old i h1 hi

theorem Lead.newObj (o : Obj) (ho : Obj.calm o = true) : Lead V (Go.newObj o) := by
  intro Bad w1 w2 m es2 hB hS hT
  unfold Go.newObj
  simp only [Sem.run]
  intro _
  refine ⟨{ w2 with heap := w2.heap.push o }, #[], by simp [Sem.runT, hS.size, -Sem.runT_eq], hS.push o ho, by show w2.drawn + w1.drawn = w2.drawn + w1.drawn; rfl, rfl, by simp⟩

theorem evL_obj {Bad : Nat → Prop} {n0 B r : Nat} {wr : Bool} {o : Obj} (hb : ¬ (n0 ≤ r ∧ Bad r)) (hr : r < B) : EvL (BadLoc n0 Bad) B ⟨.obj r, wr, o.isChan⟩ := by
  refine ⟨fun x hx hs => ?_, by simp, by simp, ?_⟩
  · have : x.loc = .obj r ∨ False := by
      cases wr <;> cases hi : o.isChan <;> rw [hi] at hx <;> simp [MemAct.ofEvent, MemAct.touch?] at hx <;> first | (left; rw [← hx]) | cases hx
    rcases this with h | h
    · rw [h] at hs; exact absurd hs hb
    · exact h.elim
  · cases wr <;> cases hi : o.isChan <;> exact hr

theorem evL_objSync {S : Loc → Prop} {B r : Nat} (hr : r < B) : EvL S B ⟨.obj r, false, true⟩ :=
  ⟨fun x hx _ => by
    have : x = ⟨.obj r, false, .atomic⟩ := by simpa [MemAct.ofEvent, MemAct.touch?] using hx.symm
    rw [this]; simp, by simp, by simp, hr⟩
theorem runT_getObj (Q : Program) (w : World) (es : Array Event) (r : Nat) (o : Obj) (hr : w.heap[r]? = some o) (hn : ∀ c e f, o ≠ .cells c e f) : (Go.getObj r).runT Q w es = (.ok o w, es ++ #[⟨.obj r, false, o.isChan⟩]) := by
  simp only [Go.getObj, Sem.runT, hr]
  cases o <;> first | simp [Sem.runT, -Sem.runT_eq] | exact absurd rfl (hn _ _ _)
theorem run_getObj (Q : Program) (w : World) (r : Nat) (o : Obj) (hr : w.heap[r]? = some o) (hn : ∀ c e f, o ≠ .cells c e f) : (Go.getObj r).run Q w = .ok o w := by
  rw [← Sem.runT_fst Q _ w #[], runT_getObj Q w #[] r o hr hn]
/-- The block's object is asked: what follows does not hang on how often a channel has been used, and is at an end at the hollow one. -/
theorem Lead.getObjK {β : Type} {k : Obj → Sem β} (r : Nat) (hk : ∀ cap buf cl tm s r s' r', k (.chan cap buf cl s r tm) = k (.chan cap buf cl s' r' tm))
    (hd : V.ok r ∨ ∀ w, ∃ e w', (k hollow).run V.sh w = .halt e w' ∧ ¬ Soft e) (hl : ∀ o, Obj.calm o = true → Lead (V.add r) (k o)) : Lead V (Go.getObj r >>= k) := by
  intro Bad w1 w2 m es2 hB hS hT
  show Leads V Bad m w1 w2 es2 ((Sem.bind (Go.getObj r) k).run V.sh w1) ((Sem.bind (Go.getObj r) k).runT V.re w2 es2)
  rw [Sem.run_bind' V.sh (Go.getObj r) k w1, Sem.runT_bind' V.re (Go.getObj r) k w2 es2]
  cases hr : w1.heap[r]? with
  | none =>
    have h0 : (Go.getObj r).run V.sh w1 = .halt (.stuck "getObj: no such block") w1 := by
      unfold Go.getObj
      simp only [Sem.run, hr]
    rw [h0]
    simp only [Result.andThen]
    exact fun h0 => absurd h0 (by simp [Soft])
  | some o =>
    by_cases hn : ∃ c e f, o = .cells c e f
    · obtain ⟨c, e, f, rfl⟩ := hn
      have h0 : (Go.getObj r).run V.sh w1 = .halt (.stuck "getObj: a row of cells") w1 := by
        unfold Go.getObj
        simp only [Sem.run, hr]
      rw [h0]
      simp only [Result.andThen]
      exact fun h0 => absurd h0 (by simp [Soft])
    · have hn' : ∀ c e f, o ≠ .cells c e f := fun c e f h => hn ⟨c, e, f, h⟩
      by_cases hb : Bad r
      · have ho : o = hollow := by
          have := hS.poison r hb
          rw [hr] at this
          exact Option.some.inj this
        rw [run_getObj V.sh w1 r o hr hn']
        simp only [Result.andThen]
        rcases hd with hd | hd
        · exact absurd hb (hB r hd)
        · obtain ⟨e, w', h1, h2⟩ := hd w1
          rw [ho, h1]
          exact fun h0 => absurd h0 h2
      have hlt := hS.lt hr
      obtain ⟨o2, hr2, hn2, hk2⟩ : ∃ o2, w2.heap[r]? = some o2 ∧ (∀ c e f, o2 ≠ .cells c e f) ∧ k o2 = k o := by
        rcases hS.same r hb with e | ⟨cap, buf, cl, tm, s, r, s', r', e1, e2⟩
        · exact ⟨o, by rw [e, hr], hn', rfl⟩
        · rw [hr] at e1
          obtain rfl := Option.some.inj e1
          exact ⟨_, e2, (by intros; simp), hk _ _ _ _ _ _ _ _⟩
      rw [run_getObj V.sh w1 r o hr hn', runT_getObj V.re w2 es2 r o2 hr2 hn2]
      simp only [Result.andThen, hk2]
      have h3 := hl o (hS.calm r o hr) Bad w1 w2 m (es2 ++ #[⟨.obj r, false, o2.isChan⟩]) (fun i hi => hi.elim (hB i) (fun e => e ▸ hb)) hS.add hT
      have l3 := later_run V.sh (k o) w1
      have first : Out V Bad w1 w2 w1 w2 #[⟨.obj r, false, o2.isChan⟩] := ⟨hS, by omega, rfl, fun e he => by
        obtain rfl : e = ⟨.obj r, false, o2.isChan⟩ := by simpa using he
        exact evL_obj (fun h => hb h.2) hlt⟩
      cases hx : (k o).run V.sh w1 with
      | ok a v1 =>
        rw [show (k o).run (V.add r).sh w1 = _ from hx] at h3
        rw [hx] at l3
        intro hm
        obtain ⟨v2, n, e1, o1⟩ := h3 hm
        exact ⟨v2, #[⟨.obj r, false, o2.isChan⟩] ++ n, by rw [show (k o).runT V.re w2 _ = _ from e1, Array.append_assoc], first.trans o1.strip l3⟩
      | halt a v1 =>
        rw [show (k o).run (V.add r).sh w1 = _ from hx] at h3
        rw [hx] at l3
        intro hh hm
        obtain ⟨rd, v2, n, e1, o1⟩ := h3 hh hm
        exact ⟨rd, v2, #[⟨.obj r, false, o2.isChan⟩] ++ n, by rw [show (k o).runT V.re w2 _ = _ from e1, Array.append_assoc], first.trans o1.strip l3⟩

theorem Lead.setObj (r : Nat) (o : Obj) (ho : Obj.calm o = true) (hk : V.ok r) : Lead V (Go.setObj r o) := by
  intro Bad w1 w2 m es2 hB hS hT
  unfold Go.setObj
  simp only [Sem.run]
  cases hr : w1.heap[r]? with
  | none => exact fun h0 => absurd h0 (by simp [Soft])
  | some o' =>
    by_cases hn : ∃ c e f, o' = .cells c e f
    · obtain ⟨c, e, f, rfl⟩ := hn
      exact fun h0 => absurd h0 (by simp [Soft])
    · have hn' : ∀ c e f, o' ≠ .cells c e f := fun c e f h => hn ⟨c, e, f, h⟩
      have hb := hB r hk
      obtain ⟨o2, hr2, hn2, hch⟩ : ∃ o2, w2.heap[r]? = some o2 ∧ (∀ c e f, o2 ≠ .cells c e f) ∧ True := by
        rcases hS.same r hb with e | ⟨cap, buf, cl, tm, s, r, s', r', e1, e2⟩
        · exact ⟨o', by rw [e, hr], hn', trivial⟩
        · exact ⟨_, e2, (by intros; simp), trivial⟩
      have g2 : (Sem.setObj r o (Sem.pure ())).runT V.re w2 es2 = (.ok () { w2 with heap := w2.heap.setIfInBounds r o }, es2 ++ #[⟨.obj r, true, o.isChan⟩]) := by
        simp only [Sem.runT, hr2]
        cases o2 <;> first | simp [Sem.runT, -Sem.runT_eq] | exact absurd rfl (hn2 _ _ _)
      rw [g2]
      have g3 : ∃ w2' new, (Result.ok () { w2 with heap := w2.heap.setIfInBounds r o }, es2 ++ #[⟨.obj r, true, o.isChan⟩]) = (Result.ok () w2', es2 ++ new) ∧ Out V Bad w1 w2 { w1 with heap := w1.heap.setIfInBounds r o } w2' new :=
        ⟨_, _, rfl, hS.setObj o hb ho, by show w2.drawn + w1.drawn = w2.drawn + w1.drawn; rfl, rfl, fun e he => by
          obtain rfl : e = ⟨.obj r, true, o.isChan⟩ := by simpa using he
          have := hS.lt hr
          exact evL_obj (fun h => hb h.2) (by simpa using this)⟩
      cases o' <;> first | exact absurd rfl (hn' _ _ _) | exact fun _ => g3

theorem Lead.choose (q : Question) : Lead V (Go.choose q) := by
  intro Bad w1 w2 m es2 hB hS hT
  unfold Go.choose
  simp only [Sem.run, Sem.runT]
  split
  · rename_i hf
    intro _
    exact ⟨w2, #[], by simp [Sem.runT, -Sem.runT_eq], Out.refl hS⟩
  · intro hm
    have hm' : w1.drawn + 1 ≤ w1.drawn + m := hm
    have ht := hT 0 (by omega)
    simp only [Nat.add_zero] at ht
    refine ⟨{ w2 with drawn := w2.drawn + 1 }, #[], by simp [ht, Sem.runT, -Sem.runT_eq], ⟨hS.tab, hS.size, hS.same, hS.poison, hS.real, hS.os, hS.output, hS.calm, hS.exact, hS.low, hS.old⟩, ?_, rfl, by simp⟩
    show w2.drawn + 1 + w1.drawn = w2.drawn + (w1.drawn + 1)
    omega

/-- The program is asked: what follows is the same for both. -/
theorem Lead.program {α : Type} {f : Program → Sem α} (h : f V.sh = f V.re) (hf : Lead V (f V.re)) : Lead V (Go.program >>= f) := by
  intro Bad w1 w2 m es2 hB hS hT
  have := hf Bad w1 w2 m es2 hB hS hT
  rw [← h] at this
  show Leads V Bad m w1 w2 es2 ((Sem.bind Go.program f).run V.sh w1) ((Sem.bind Go.program f).runT V.re w2 es2)
  rw [Sem.run_bind' V.sh Go.program f w1, Sem.runT_bind' V.re Go.program f w2 es2]
  simp only [Go.program, Sem.run, Sem.runT, Result.andThen]
  rw [← h]
  exact this

theorem Lead.mark (mk : Mark) (h1 : (∃ f, mk = .extern f) ∨ mk = .noRoom) : Lead V (Go.mark mk) := by
  intro Bad w1 w2 m es2 hB hS hT
  unfold Go.mark
  simp only [Sem.run]
  intro _
  refine ⟨w2, #[⟨.mark mk, false, true⟩], by simp [Sem.runT, -Sem.runT_eq], hS, by omega, rfl, ?_⟩
  intro e he
  obtain rfl : e = ⟨.mark mk, false, true⟩ := by simpa using he
  rcases h1 with ⟨f, rfl⟩ | rfl
  · exact ⟨fun x hx => (by simp [MemAct.ofEvent, MemAct.touch?] at hx), by simp, by simp, trivial⟩
  · exact ⟨fun x hx => (by simp [MemAct.ofEvent, MemAct.touch?] at hx), by simp, by simp, trivial⟩

theorem Lead.askRoom (n : Nat) : Lead V (Go.askRoom n) := by
  unfold Go.askRoom
  split
  · exact Lead.mark _ (.inr rfl)
  · exact Lead.pure _

theorem Lead.ite {α : Type} {c : Prop} [Decidable c] {x y : Sem α} (hx : Lead V x) (hy : Lead V y) : Lead V (if c then x else y) := by split <;> assumption

theorem Lead.iteH {α : Type} {c : Prop} [Decidable c] {x y : Sem α} (hx : c → Lead V x) (hy : ¬ c → Lead V y) : Lead V (if c then x else y) := by split <;> solve_by_elim

theorem Lead.frozen (a : Addr) : Lead V (Go.frozen a) := by
  intro Bad w1 w2 m es2 hB hS hT
  unfold Go.frozen
  simp only [Sem.run]
  intro _
  exact ⟨w2, #[], by simp [Sem.runT, hS.frozen a, -Sem.runT_eq], Out.refl hS⟩
end
end Go.Proofs.YtnikgcedifdaeaaGreatDoor.Lift
end

section
/- The model's helpers and operations, walked alike (Lead): those that our programs use. -/
namespace Go.Proofs.YtnikgcedifdaeaaGreatDoor.Lift
open Go Go.Conc
set_option linter.unusedSimpArgs false
set_option linter.unusedVariables false
/-- The two programs bear the same tables; a variable's block is never shunned. -/
structure Tab (V : Env) : Prop where
  tables : V.sh.toTables = V.re.toTables
  ok : ∀ i, i < V.re.globals.size → V.ok i
theorem Tab.add {V : Env} (h : Tab V) (r : Nat) : Tab (V.add r) := ⟨h.tables, fun i hi => .inl (h.ok i hi)⟩
section
variable {V : Env}

theorem Lead.getObjH {β : Type} {k : Obj → Sem β} (h : Tab V) (r : Nat) (hk : ∀ cap buf cl tm s r s' r', k (.chan cap buf cl s r tm) = k (.chan cap buf cl s' r' tm))
    (hd : V.ok r ∨ ∀ w, ∃ e w', (k hollow).run V.sh w = .halt e w' ∧ ¬ Soft e) (hl : ∀ o, Obj.calm o = true → Tab (V.add r) → Lead (V.add r) (k o)) : Lead V (Go.getObj r >>= k) :=
  Lead.getObjK r hk hd fun o ho => hl o ho (h.add r)
theorem Lead.stuck {α : Type} (why : String) : Lead V (Go.stuck why : Sem α) := Lead.soft _
def isInit : Unsupported → Bool
  | .initOrder _ => true
  | _ => false
theorem Lead.unsupported {α : Type} (u : Unsupported) (hu : isInit u = false := by with_unfolding_all rfl) : Lead V (Go.unsupported u : Sem α) := Lead.soft _ (by cases u <;> first | trivial | cases hu)
theorem Lead.goPanic {α : Type} (v : Value) : Lead V (Go.goPanic v : Sem α) := Lead.soft _

theorem Lead.typeInfo (h : Tab V) (t : TypeId) : Lead V (Go.typeInfo t) := by
  unfold Go.typeInfo
  refine Lead.program (by simp only [tables_info h.tables]) ?_
  split
  · exact Lead.pure _
  · exact Lead.stuck _
theorem Lead.underlying (h : Tab V) (t : TypeId) : Lead V (Go.underlying t) := by
  unfold Go.underlying
  refine Lead.program (by simp only [tables_under h.tables]) ?_
  split
  · exact Lead.pure _
  · exact Lead.stuck _
theorem Lead.zeroValue (h : Tab V) (t : TypeId) : Lead V (Go.zeroValue t) := by
  unfold Go.zeroValue
  refine Lead.bind (Lead.typeInfo h t) fun i => ?_
  split
  · exact Lead.pure _
  · exact Lead.unsupported _
theorem Lead.sizeOf (h : Tab V) (t : TypeId) : Lead V (Go.sizeOf t) := Lead.bind (Lead.typeInfo h t) fun _ => Lead.pure _
theorem Lead.isAgg (h : Tab V) (t : TypeId) : Lead V (Go.isAgg t) := by
  unfold Go.isAgg
  refine Lead.bind (Lead.underlying h t) fun d => ?_
  split <;> exact Lead.pure _
theorem Lead.loadCellsFrom (a : Addr) : ∀ (n i : Nat) (acc : Array Value), Lead V (Go.loadCellsFrom a i n acc)
  | 0, _, _ => Lead.pure _
  | n + 1, i, acc => by
    unfold Go.loadCellsFrom
    exact Lead.bind (Lead.load _ _) fun v => Lead.loadCellsFrom a n _ _
theorem Lead.loadCells (a : Addr) (n : Nat) : Lead V (Go.loadCells a n) := Lead.loadCellsFrom a n 0 #[]
theorem Lead.storeCells (a : Addr) : ∀ (vs : List Value) (i : Nat), Lead V (Go.storeCells a vs i)
  | [], _ => Lead.pure _
  | v :: vs, i => by
    unfold Go.storeCells
    exact Lead.bind (Lead.store _ _ _) fun _ => Lead.storeCells a vs _
theorem Lead.loadVar (h : Tab V) (t : TypeId) (a : Addr) : Lead V (Go.loadVar t a) := by
  unfold Go.loadVar
  refine Lead.bind (Lead.isAgg h t) fun b => Lead.ite (Lead.bind (Lead.sizeOf h t) fun n => Lead.bind (Lead.loadCells a n) fun _ => Lead.pure _) (Lead.load _ _)
theorem Lead.storeVar (h : Tab V) (t : TypeId) (a : Addr) (v : Value) : Lead V (Go.storeVar t a v) := by
  unfold Go.storeVar
  refine Lead.bind (Lead.sizeOf h t) fun n => ?_
  split
  · exact Lead.bind (Lead.stuck _) fun _ => Lead.storeCells a _ 0
  · exact Lead.storeCells a _ 0
theorem Lead.newRow (t : TypeId) (c : Array Value) : Lead V (Go.newRow t c) := Lead.bind (Lead.newObj _ rfl) fun _ => Lead.pure _
theorem Lead.newVar (t : TypeId) (v : Value) : Lead V (Go.newVar t v) := Lead.newRow _ _
theorem Lead.elemOf (h : Tab V) (t : TypeId) : Lead V (Go.elemOf t) := by
  unfold Go.elemOf
  refine Lead.bind (Lead.underlying h t) fun d => ?_
  split
  · exact Lead.pure _
  · exact Lead.stuck _
theorem Lead.part (h : Tab V) (t : TypeId) (cs : Array Value) (off : Nat) : Lead V (Go.part t cs off) := by
  unfold Go.part
  refine Lead.bind (Lead.isAgg h t) fun b => Lead.ite (Lead.bind (Lead.sizeOf h t) fun _ => Lead.pure _) ?_
  split
  · exact Lead.pure _
  · exact Lead.stuck _
theorem Lead.runtimePanic {α : Type} (h : Tab V) (e : RuntimeError) : Lead V (Go.runtimePanic e : Sem α) := by
  unfold Go.runtimePanic
  refine Lead.program ?_ ?_
  · have hh : typeHandle V.sh = typeHandle V.re := funext fun t => by unfold typeHandle; rw [h.tables]
    dsimp only
    rw [h.tables, hh]
  · cases e <;> first
      | exact Lead.goPanic _
      | exact Lead.bind (Lead.elemOf h _) fun _ => Lead.bind (Lead.newVar _ _) fun _ => Lead.goPanic _
theorem Lead.boundsPanic {α : Type} (h : Tab V) (k : IntKind) (x y : Int) (c : BoundsCode) : Lead V (Go.boundsPanic k x y c : Sem α) := by
  unfold Go.boundsPanic
  dsimp only
  split
  · exact Lead.bind (Lead.map (Lead.choose _)) fun _ => Lead.runtimePanic h _
  · exact Lead.bind (Lead.pure _) fun _ => Lead.runtimePanic h _
theorem Lead.asIntOf (v : Value) : Lead V (Go.asIntOf v) := by
  unfold Go.asIntOf
  split
  · exact Lead.pure _
  · exact Lead.unsupported _
  · exact Lead.stuck _
theorem Lead.asInt (v : Value) : Lead V (Go.asInt v) := Lead.bind (Lead.asIntOf v) fun _ => Lead.pure _
theorem Lead.asBool (v : Value) : Lead V (Go.asBool v) := by
  unfold Go.asBool
  split
  · exact Lead.pure _
  · exact Lead.stuck _
theorem Lead.asString (v : Value) : Lead V (Go.asString v) := by
  unfold Go.asString
  split
  · exact Lead.pure _
  · exact Lead.stuck _
theorem Lead.asAgg (v : Value) : Lead V (Go.asAgg v) := by
  unfold Go.asAgg
  split
  · exact Lead.pure _
  · exact Lead.stuck _
theorem Lead.asAddr (h : Tab V) (v : Value) : Lead V (Go.asAddr v) := by
  unfold Go.asAddr
  split
  · exact Lead.pure _
  · exact Lead.runtimePanic h _
  · exact Lead.stuck _
theorem Lead.sureAddr (v : Value) : Lead V (Instr.sureAddr v) := by
  unfold Instr.sureAddr
  split
  · exact Lead.pure _
  · exact Lead.stuck _
theorem Lead.forInList {α β : Type} (f : α → β → Sem (ForInStep β)) (hf : ∀ a b, Lead V (f a b)) : ∀ (l : List α) (b : β), Lead V (forIn l b f)
  | [], b => by rw [List.forIn_nil]; exact Lead.pure _
  | x :: l, b => by
    rw [List.forIn_cons]
    refine Lead.bind (hf x b) fun r => ?_
    cases r with
    | done b => exact Lead.pure _
    | yield b => exact Lead.forInList f hf l b
theorem Lead.forInArray {α β : Type} (f : α → β → Sem (ForInStep β)) (hf : ∀ a b, Lead V (f a b)) (l : Array α) (b : β) : Lead V (forIn l b f) := by
  rw [← Array.forIn_toList]
  exact Lead.forInList f hf _ _
theorem Lead.forInRange {β : Type} (f : Nat → β → Sem (ForInStep β)) (hf : ∀ a b, Lead V (f a b)) (r : Std.Legacy.Range) (b : β) : Lead V (forIn r b f) := by
  rw [Std.Legacy.Range.forIn_eq_forIn_range']
  exact Lead.forInList f hf _ _
theorem Lead.foldlM {α β : Type} (f : β → α → Sem β) (hf : ∀ b a, Lead V (f b a)) : ∀ (l : List α) (b : β), Lead V (l.foldlM f b)
  | [], b => Lead.pure _
  | x :: l, b => Lead.bind (hf b x) fun b => Lead.foldlM f hf l b
theorem Lead.mapList {α β : Type} (f : α → Sem β) (hf : ∀ a, Lead V (f a)) : ∀ (l : List α), Lead V (l.mapM f)
  | [] => Lead.pure _
  | x :: l => by
    rw [List.mapM_cons]
    exact Lead.bind (hf x) fun _ => Lead.bind (Lead.mapList f hf l) fun _ => Lead.pure _
theorem Lead.mapArray {α β : Type} (f : α → Sem β) (hf : ∀ a, Lead V (f a)) (l : Array α) : Lead V (l.mapM f) := by
  rw [Array.mapM_eq_mapM_toList]
  exact Lead.map (Lead.mapList f hf _)

/-- A run that gives a hard halt in the shadow, whatever the world. -/
theorem Lead.dead {α : Type} {s : Sem α} (hs : ∀ w, ∃ e w', s.run V.sh w = .halt e w' ∧ ¬ Soft e) : Lead V s := by
  intro Bad w1 w2 m es2 hB hS hT
  obtain ⟨e, w', h1, h2⟩ := hs w1
  rw [h1]
  exact fun h0 => absurd h0 h2
theorem Sh.shapeSome {Bad : Nat → Prop} {w1 w2 : World} (h : Sh V Bad w1 w2) {r : Nat} (hb : ¬ Bad r) : w2.shape? r = w1.shape? r := by
  unfold World.shape?
  rcases h.same r hb with e | ⟨cap, buf, cl, tm, s, r, s', r', e1, e2⟩
  · rw [e]
  · rw [e1, e2]
theorem Lead.peek {β : Type} (k : Obj → Sem (Option β)) (g : Obj → Option β) (hk : ∀ o, k o = Pure.pure (g o)) (hgc : ∀ o, Obj.calm o = false → g o = none) (hg : ∀ cap buf cl tm s r s' r', g (.chan cap buf cl s r tm) = g (.chan cap buf cl s' r' tm)) (hgn : ∀ cap buf cl s r tm, g (.chan cap buf cl s r tm) = none) (hg0 : g hollow = none) (r : Nat) :
    Lead V (Go.shape r >>= fun s => if s.isSome = true then Pure.pure none else Go.getObj r >>= k) := by
  intro Bad w1 w2 m es2 hB hS hT
  have key : ∀ (Q : Program) (w : World) (es : Array Event) (o : Obj), w.heap[r]? = some o → ∃ new, (Go.shape r >>= fun s => if s.isSome = true then Pure.pure none else Go.getObj r >>= k).runT Q w es = (.ok (if (w.shape? r).isSome = true then none else g o) w, es ++ new) ∧ ∀ e ∈ new, (w.shape? r = none ∧ e = ⟨.obj r, false, o.isChan⟩) := by
    intro Q w es o ho
    show ∃ new, ((Sem.bind (Go.shape r) _).runT Q w es) = _ ∧ _
    rw [Sem.runT_bind' Q (Go.shape r) _ w es]
    simp only [Go.shape, Sem.runT]
    cases hsh : w.shape? r with
    | some x => exact ⟨#[], by simp [Pure.pure, Sem.runT, -Sem.runT_eq], by simp⟩
    | none =>
      simp only [Option.isSome_none, Bool.false_eq_true, ↓reduceIte]
      refine ⟨#[⟨.obj r, false, o.isChan⟩], ?_, fun e he => ⟨by first | trivial | rfl | exact hsh, by simpa using he⟩⟩
      show (Sem.bind (Go.getObj r) k).runT Q w es = _
      rw [Sem.runT_bind' Q (Go.getObj r) k w es]
      have hno : ∀ c e f, o ≠ .cells c e f := by
        rintro c e f rfl
        unfold World.shape? at hsh
        rw [ho] at hsh
        cases hsh
      rw [runT_getObj Q w es r o ho hno]
      dsimp only
      rw [hk o]
      simp [Pure.pure, Sem.runT, -Sem.runT_eq]
  have keyR : ∀ (Q : Program) (w : World) (o : Obj), w.heap[r]? = some o → (Go.shape r >>= fun s => if s.isSome = true then Pure.pure none else Go.getObj r >>= k).run Q w = .ok (if (w.shape? r).isSome = true then none else g o) w := by
    intro Q w o ho
    obtain ⟨new, h1, _⟩ := key Q w #[] o ho
    rw [← Sem.runT_fst Q _ w #[], h1]
  cases hr : w1.heap[r]? with
  | none =>
    have hrun : (Go.shape r >>= fun s => if s.isSome = true then Pure.pure none else Go.getObj r >>= k).run V.sh w1 = .halt (.stuck "getObj: no such block") w1 := by
      have hsh : w1.shape? r = none := by unfold World.shape?; rw [hr]
      show (Sem.bind (Go.shape r) _).run V.sh w1 = _
      rw [Sem.run_bind' V.sh (Go.shape r) _ w1]
      simp only [Go.shape, Sem.run, Result.andThen, hsh, Option.isSome_none, Bool.false_eq_true, ↓reduceIte]
      show (Sem.bind (Go.getObj r) k).run V.sh w1 = _
      rw [Sem.run_bind' V.sh (Go.getObj r) k w1]
      simp only [Go.getObj, Sem.run, hr, Result.andThen]
    rw [hrun]
    exact fun h0 => absurd h0 (by simp [Soft])
  | some o =>
    rw [keyR V.sh w1 o hr]
    intro _
    by_cases hb : Bad r
    · have hlt : r < w2.heap.size := hS.lt hr
      have ho : o = hollow := by
        have := hS.poison r hb
        rw [hr] at this
        exact Option.some.inj this
      have s1 : (if (w1.shape? r).isSome = true then none else g o) = none := by
        rw [ho, hg0]
        split <;> rfl
      rw [s1]
      rcases hS.real r hb with ⟨_, o2, h2, ⟨c, e2, rfl⟩ | ⟨cap, buf, cl, s, r2, tm, rfl⟩⟩ | ⟨hn0, o2, h2, hcal⟩
      · obtain ⟨new, h3, h4⟩ := key V.re w2 es2 _ h2
        have s2 : (w2.shape? r).isSome = true := by unfold World.shape?; rw [h2]; rfl
        rw [if_pos s2] at h3
        refine ⟨w2, new, h3, hS, by omega, rfl, fun e he => ?_⟩
        obtain ⟨a1, _⟩ := h4 e he
        rw [a1] at s2
        cases s2
      · obtain ⟨new, h3, h4⟩ := key V.re w2 es2 _ h2
        rw [hgn, ite_self] at h3
        refine ⟨w2, new, h3, hS, by omega, rfl, fun e he => ?_⟩
        obtain ⟨_, rfl⟩ := h4 e he
        exact evL_objSync hlt
      · obtain ⟨new, h3, h4⟩ := key V.re w2 es2 o2 h2
        rw [hgc o2 hcal, ite_self] at h3
        refine ⟨w2, new, h3, hS, by omega, rfl, fun e he => ?_⟩
        obtain ⟨_, rfl⟩ := h4 e he
        exact evL_obj (fun h => by omega) hlt
    · obtain ⟨o2, h2, hc2, hge⟩ : ∃ o2, w2.heap[r]? = some o2 ∧ Obj.calm o2 = true ∧ g o2 = g o := by
        rcases hS.same r hb with e | ⟨cap, buf, cl, tm, s, r, s', r', e1, e2⟩
        · exact ⟨o, by rw [e, hr], hS.calm r o hr, rfl⟩
        · rw [hr] at e1
          obtain rfl := Option.some.inj e1
          exact ⟨_, e2, rfl, hg _ _ _ _ _ _ _ _⟩
      obtain ⟨new, h3, h4⟩ := key V.re w2 es2 o2 h2
      rw [hS.shapeSome hb, hge] at h3
      refine ⟨w2, new, h3, hS, by omega, rfl, fun e he => ?_⟩
      obtain ⟨_, rfl⟩ := h4 e he
      exact evL_obj (fun h => hb h.2) (hS.lt hr)
theorem Lead.viewAt (r : Nat) : Lead V (Go.viewAt r) :=
  Lead.peek _ (fun o => match o with | .view a t => some (a, t) | _ => none) (fun o => by cases o <;> rfl) (fun o ho => by cases o <;> first | rfl | cases ho) (by intros; rfl) (by intros; rfl) rfl r
theorem Lead.numberAt (r : Nat) : Lead V (Go.numberAt r) :=
  Lead.peek _ (fun o => match o with | .number a lost => some (a, lost) | _ => none) (fun o => by cases o <;> rfl) (fun o ho => by cases o <;> first | rfl | cases ho) (by intros; rfl) (by intros; rfl) rfl r
theorem Lead.noView (a : Addr) : Lead V (Go.noView a) := by
  unfold Go.noView
  exact Lead.bind (Lead.viewAt _) fun _ => Lead.ite (Lead.unsupported _) (Lead.pure _)
theorem Lead.behindNumber (a : Addr) : Lead V (Go.behindNumber a) := Lead.bind (Lead.numberAt _) fun _ => Lead.pure _
def strW (w : World) (a : Addr) : Bool := w.frozen? a || (match w.shape? a.block with | some (_, n) => w.frozen? { block := a.block, off := n } | none => false)
def voidW (w : World) (a : Addr) : Bool := match w.shape? a.block with | some (_, 0) => true | _ => false
theorem strW_run (Q : Program) (w : World) (es : Array Event) (a : Addr) : (Go.stringish a).runT Q w es = (.ok (strW w a) w, es) := by
  unfold Go.stringish strW
  show (Sem.bind (Go.frozen a) _).runT Q w es = _
  rw [Sem.runT_bind' Q (Go.frozen a) _ w es]
  simp only [Go.frozen, Sem.runT]
  cases hf : w.frozen? a with
  | true => simp [Pure.pure, Sem.runT, -Sem.runT_eq]
  | false =>
    simp only [Bool.false_eq_true, ↓reduceIte, Bool.false_or]
    show (Sem.bind (Go.shape a.block) _).runT Q w es = _
    rw [Sem.runT_bind' Q (Go.shape a.block) _ w es]
    simp only [Go.shape, Sem.runT]
    cases w.shape? a.block with
    | none => simp [Pure.pure, Sem.runT, -Sem.runT_eq]
    | some x => simp [Sem.runT, -Sem.runT_eq]
theorem mayBeOne_run (Q : Program) (w : World) (es : Array Event) (a b : Addr) : (Go.mayBeOne a b).runT Q w es = (.ok ((strW w a && strW w b) || (strW w a && voidW w a) || (strW w b && voidW w b)) w, es) := by
  have hv : ∀ (x : Addr) (es : Array Event), ((Go.shape x.block >>= fun s => (Pure.pure (match s with | some (_, 0) => true | _ => false) : Sem Bool))).runT Q w es = (.ok (voidW w x) w, es) := by
    intro x es
    show (Sem.bind (Go.shape x.block) _).runT Q w es = _
    rw [Sem.runT_bind' Q (Go.shape x.block) _ w es]
    simp only [Go.shape, Sem.runT, voidW]
    simp [Pure.pure, Sem.runT, -Sem.runT_eq]
  unfold Go.mayBeOne
  dsimp only
  show (Sem.bind (Go.stringish a) _).runT Q w es = _
  rw [Sem.runT_bind' Q (Go.stringish a) _ w es, strW_run]
  dsimp only
  show (Sem.bind (Go.stringish b) _).runT Q w es = _
  rw [Sem.runT_bind' Q (Go.stringish b) _ w es, strW_run]
  dsimp only
  show (Sem.bind (Go.shape a.block >>= fun s => (Pure.pure (match s with | some (_, 0) => true | _ => false) : Sem Bool)) _).runT Q w es = _
  rw [Sem.runT_bind' Q _ _ w es, hv a]
  dsimp only
  show (Sem.bind (Go.shape b.block >>= fun s => (Pure.pure (match s with | some (_, 0) => true | _ => false) : Sem Bool)) _).runT Q w es = _
  rw [Sem.runT_bind' Q _ _ w es, hv b]
  dsimp only
  simp [Pure.pure, Sem.runT, -Sem.runT_eq]
theorem Sh.str {Bad : Nat → Prop} {w1 w2 : World} (h : Sh V Bad w1 w2) (a : Addr) : strW w2 a = strW w1 a := by
  unfold strW
  rw [h.frozen a]
  by_cases hb : Bad a.block
  · have f1 : ∀ n, w1.frozen? { block := a.block, off := n } = false := fun n => by
      unfold World.frozen?
      simp only [h.poison _ hb]
      simp [hollow]
    have f2 : ∀ n, w2.frozen? { block := a.block, off := n } = false := fun n => by rw [h.frozen]; exact f1 n
    congr 1
    cases w2.shape? a.block <;> cases w1.shape? a.block <;> simp [f1, f2]
  · rw [h.shapeSome hb]
    congr 1
    cases w1.shape? a.block with
    | none => rfl
    | some x => exact h.frozen _
theorem Sh.strBad {Bad : Nat → Prop} {w1 w2 : World} (h : Sh V Bad w1 w2) {a : Addr} (hb : Bad a.block) : strW w1 a = false := by
  have f1 : ∀ n s, w1.frozen? { block := a.block, off := n, spot := s } = false := fun n s => by
    unfold World.frozen?
    simp only [h.poison _ hb]
    simp [hollow]
  unfold strW
  rw [show w1.frozen? a = false from f1 _ _, Bool.false_or]
  cases w1.shape? a.block with
  | none => rfl
  | some x => exact f1 _ _
theorem Lead.mayBeOne (a b : Addr) : Lead V (Go.mayBeOne a b) := by
  intro Bad w1 w2 m es2 hB hS hT
  rw [← Sem.runT_fst V.sh _ w1 #[], mayBeOne_run, mayBeOne_run]
  intro _
  refine ⟨w2, #[], ?_, Out.refl hS⟩
  have hv : ∀ x : Addr, (strW w1 x && voidW w2 x) = (strW w1 x && voidW w1 x) := fun x => by
    by_cases hb : Bad x.block
    · rw [hS.strBad hb]; rfl
    · unfold voidW
      rw [hS.shapeSome hb]
  rw [hS.str a, hS.str b, hv a, hv b]
  simp
theorem Lead.sameAddr (a b : Addr) : Lead V (Go.sameAddr a b) := by
  unfold Go.sameAddr
  repeat' first
    | with_reducible exact Lead.pure _
    | with_reducible exact Lead.unsupported _
    | with_reducible exact Lead.frozen _
    | with_reducible exact Lead.noView _
    | with_reducible exact Lead.mayBeOne _ _
    | with_reducible exact Lead.choose _
    | with_reducible refine Lead.bind ?_ (fun _ => ?_)
    | with_reducible refine Lead.map ?_
    | split
    | dsimp only
theorem Lead.samePointer (a b : Option Addr) : Lead V (Go.samePointer a b) := by
  unfold Go.samePointer
  split
  · exact Lead.sameAddr _ _
  · exact Lead.pure _
end
end Go.Proofs.YtnikgcedifdaeaaGreatDoor.Lift
namespace Go.Proofs.YtnikgcedifdaeaaGreatDoor.Lift
open Go Go.Conc
set_option linter.unusedSimpArgs false
section
variable {V : Env}
theorem Lead.shapeAt (r : Nat) (hr : V.ok r) : Lead V (Go.shape r) := by
  intro Bad w1 w2 m es2 hB hS hT
  have hb : ¬ Bad r := hB r hr
  unfold Go.shape
  simp only [Sem.run]
  intro _
  exact ⟨w2, #[], by simp [Sem.runT, hS.shapeSome hb, -Sem.runT_eq], Out.refl hS⟩
theorem Lead.byteOf (h : Tab V) (a : Addr) (ha : V.ok a.block) : Lead V (Go.byteOf a) := by
  unfold Go.byteOf
  split
  · exact Lead.pure _
  · refine Lead.program (by simp only [tables_cellsOf h.tables, tables_bytesOf h.tables, tables_byteOfCell h.tables, tables_depth h.tables]) ?_
    refine Lead.bind (Lead.noView _) fun _ => Lead.bind (Lead.shapeAt _ ha) fun _ => ?_
    split
    · dsimp only
      split
      · exact Lead.pure _
      · split
        · exact Lead.pure _
        · exact Lead.stuck _
    · exact Lead.stuck _
theorem Lead.byteOfG (h : Tab V) (a : Addr) (ha : a.block < V.re.globals.size) : Lead V (Go.byteOf a) := Lead.byteOf h a (h.ok _ ha)
end
end Go.Proofs.YtnikgcedifdaeaaGreatDoor.Lift
end
