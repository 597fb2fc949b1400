/- Texts of the proof, joined by a program (part 2): contracts of functions, plain laws. -/
import Derived.Test.YtnikgcedifdaeaaGreatDoorJX1
import Derived.Orders
set_option linter.unusedVariables false
set_option linter.unusedSimpArgs false
set_option linter.unusedSectionVars false
section
/- Equality of structs; nil. Plain. -/
namespace Go.Proofs.YtnikgcedifdaeaaGreatDoor.Ab
open Go
noncomputable section
def eqF (rc : TypeId → AV → AV → Option Bool) (P : Program) (xs ys : List AV) : List Field → Option Bool
  | [] => some true
  | f :: r => match f.name == "_" with
    | true => eqF rc P xs ys r
    | false => match P.underlying f.type with
      | some d => match P.info? f.type with
        | some i => match rowGet d i.size xs f.offset with
          | some a => match rowGet d i.size ys f.offset with
            | some b => match rc f.type a b with
              | some true => eqF rc P xs ys r
              | some false => some false
              | none => none
            | none => none
          | none => none
        | none => none
      | none => none
def eqS (rc : TypeId → AV → AV → Option Bool) (V : Env) (P : Program) (t : TypeId) (x y : AV) : Option Bool := match P.underlying t with
  | some (.int _) => match x, y with
    | .int k a, .int k' b => match IntKind.same k k' with
      | true => V.eq a b
      | false => none
    | _, _ => none
  | some .bool => match x, y with
    | .bool a, .bool b => some (match a, b with | true, true => true | false, false => true | _, _ => false)
    | _, _ => none
  | some .string => match x, y with
    | .str a, .str b => some (eqBytes a b)
    | _, _ => none
  | some (.struct fs) => match x, y with
    | .agg xs, .agg ys => match P.stoodInHeld t with
      | false => eqF rc P xs ys fs.toList
      | true => none
    | _, _ => none
  | _ => none
def eqV (V : Env) (P : Program) (n : Nat) : TypeId → AV → AV → Option Bool := Nat.rec (motive := fun _ => TypeId → AV → AV → Option Bool) (fun _ _ _ => none) (fun _ rc => eqS rc V P) n
def EqOk (V : Env) (P : Program) (Γ : Gam) (n : Nat) (rc : TypeId → AV → AV → Option Bool) : Prop := ∀ t x y q a b w, VR Γ x a → VR Γ y b → rc t x y = some q → (Op.equalIn n t a b).run P w = .ok q w
theorem eqF_ok {V : Env} {P : Program} {Γ : Gam} {n : Nat} {rc : TypeId → AV → AV → Option Bool} (h : EqOk V P Γ n rc) {xs ys : List AV} {a b : Array Value} (hx : VRs Γ xs a.toList) (hy : VRs Γ ys b.toList) (w : World) : ∀ (fs : List Field) (q : Bool), eqF rc P xs ys fs = some q → (Op.eqFields n a b fs).run P w = .ok q w
  | [], q, e => by obtain rfl := Option.some.inj e; rfl
  | f :: r, q, e => by
    unfold eqF at e
    unfold Op.eqFields
    split at e
    · rename_i hn
      have hn : f.name = "_" := by simpa using hn
      rw [if_neg (by simp [hn])]
      exact eqF_ok h hx hy w r q e
    · rename_i hn
      have hn : f.name ≠ "_" := by simpa using hn
      rw [if_pos hn]
      split at e
      · rename_i d hd
        split at e
        · rename_i i hi
          split at e
          · rename_i u hu
            split at e
            · rename_i v hv
              obtain ⟨uv, u1, u2⟩ := run_part (P := P) (w := w) hx hd hi hu
              obtain ⟨vv, v1, v2⟩ := run_part (P := P) (w := w) hy hd hi hv
              split at e
              · rename_i hq
                have := h _ _ _ _ _ _ w u2 v2 hq
                simp only [Sem.run_bind, u1, Result.andThen_ok, v1, this]
                rw [if_neg (by simp)]
                exact eqF_ok h hx hy w r q e
              · rename_i hq
                obtain rfl := Option.some.inj e
                have := h _ _ _ _ _ _ w u2 v2 hq
                simp only [Sem.run_bind, u1, Result.andThen_ok, v1, this]
                rfl
              · cases e
            · cases e
          · cases e
        · cases e
      · cases e
theorem eqV_ok {V : Env} {P : Program} {Γ : Gam} (hV : V.Ok Γ.ρ) : ∀ n, EqOk V P Γ n (eqV V P n)
  | 0 => fun t x y q a b w _ _ h => by cases h
  | n + 1 => fun t x y q a b w hx hy h => by
    have ih := eqV_ok (V := V) (P := P) (Γ := Γ) hV n
    change eqS (eqV V P n) V P t x y = some q at h
    unfold eqS at h
    split at h
    · rename_i k0 ht
      split at h
      · split at h
        · rename_i hk
          obtain rfl := IntKind.same_eq hk
          cases hx with
          | int e1 =>
          cases hy with
          | int e2 =>
          subst e1 e2
          rw [run_equalIn_int w n t _ k0 _ _ ht, eq_iff hV h]
          rfl
        · cases h
      · cases h
    · rename_i ht
      split at h
      · obtain rfl := Option.some.inj h
        cases hx
        cases hy
        rename_i u v
        rw [run_equalIn_bool' w n t _ _ ht]
        cases u <;> cases v <;> rfl
      · cases h
    · rename_i ht
      split at h
      · obtain rfl := Option.some.inj h
        cases hx with
        | str e1 =>
        cases hy with
        | str e2 =>
        subst e1 e2
        rw [run_equalIn_string w n t _ _ ht, eqBytes_eq, str_eq]
      · cases h
    · rename_i fs ht
      split at h
      · split at h
        · rename_i hst
          obtain ⟨m1, rfl, hm1⟩ := hx.of_agg
          obtain ⟨m2, rfl, hm2⟩ := hy.of_agg
          have hf : P.fieldsOf t = fs := by unfold Program.fieldsOf; rw [ht]
          rw [run_equalIn_struct w n t m1 m2 (by rw [hf]; exact ht) hst, hf]
          exact eqF_ok ih hm1 hm2 w _ _ h
        · cases h
      · cases h
    · cases h
/-- What is nil: a pointer, a slice, a map, a function. -/
def isNil (P : Program) (t : TypeId) (x y : AV) : Option Bool := match P.underlying t with
  | some (.slice _) => match x, y with
    | .nilslice, .nilslice => some true
    | .nilslice, .slice _ _ _ _ _ => some false
    | .slice _ _ _ _ _, .nilslice => some false
    | _, _ => none
  | some (.pointer _) => match x, y with
    | .nilptr, .nilptr => some true
    | .nilptr, .ptr _ _ => some false
    | .ptr _ _, .nilptr => some false
    | _, _ => none
  | some (.map _ _) => match x, y with
    | .nilmap, .nilmap => some true
    | .nilmap, .map _ => some false
    | .map _, .nilmap => some false
    | _, _ => none
  | _ => none
theorem isNil_ok {P : Program} {Γ : Gam} {w : World} {t : TypeId} {x y : AV} {a b : Value} {q : Bool} (hx : VR Γ x a) (hy : VR Γ y b) (h : isNil P t x y = some q) (d : Nat) : (Op.equalIn (d + 1) t a b).run P w = .ok q w ∧ ∀ op xo yo, (eqGuard op t xo yo a b).run P w = .ok () w := by
  have gd : ∀ (op : BinOp) (xo yo : Operand) (u v : Value), (∀ m, u ≠ .agg m) → u ≠ .nilIface → (eqGuard op t xo yo u v).run P w = .ok () w := by
    intro op xo yo u v h1 h2
    unfold eqGuard
    cases op <;> first
      | rfl
      | (cases u <;> first | exact absurd rfl (h1 _) | exact absurd rfl h2 | (cases v <;> rfl))
  unfold isNil at h
  unfold Op.equalIn
  repeat' (split at h)
  all_goals first
    | (cases h; done)
    | (rename_i ht
       obtain rfl := Option.some.inj h
       cases hx; cases hy
       refine ⟨?_, fun op xo yo => gd op xo yo _ _ (fun m e => by cases e) (fun e => by cases e)⟩
       simp [run_underlying (by assumption : P.underlying t = some _)])
def flip (op : BinOp) (q : Bool) : Option Bool := match op with
  | .eql => some q
  | .neq => some (!q)
  | _ => none
def boolO : Option Bool → Option AV
  | some q => some (.bool q)
  | none => none
def evBin2 (V : Env) (P : Program) (op : BinOp) (t : TypeId) (x y : AV) : Option AV := match x with
  | .int k a => match y with
    | .int k' b => evII V op k a k' b
    | _ => none
  | .str a => match y with
    | .str b => evSS op a b
    | _ => none
  | .tok i => match y with
    | .tok j => match natIs i j with
      | true => boolO (flip op true)
      | false => none
    | _ => none
  | .agg xs => match P.eqGuardType P.depth t with
    | false => match eqV V P 10000 t (.agg xs) y with
      | some q => boolO (flip op q)
      | none => none
    | true => none
  | .bool a => match eqV V P 10000 t (.bool a) y with
    | some q => boolO (flip op q)
    | none => none
  | x => match isNil P t x y with
    | some q => boolO (flip op q)
    | none => none
theorem flip_says {P : Program} {Γ : Gam} {w : World} {op : BinOp} {t : TypeId} {xo yo : Operand} {a b : Value} {q : Bool} {r : AV} (hg : ∀ op, (eqGuard op t xo yo a b).run P w = .ok () w) (he : (Op.equal t a b).run P w = .ok q w)
    (h1 : Go.binOp .eql t a b = (do Pure.pure (.bool (← Op.equal t a b)))) (h2 : Go.binOp .neq t a b = (do Pure.pure (.bool (!(← Op.equal t a b))))) (h : boolO (flip op q) = some r) : Says P Γ w (do eqGuard op t xo yo a b; Go.binOp op t a b) r := by
  cases op <;> simp only [flip, boolO] at h <;> first | (cases h; done) | (obtain rfl := Option.some.inj h)
  · exact ⟨_, by simp only [Sem.run_bind, hg, Result.andThen_ok, h1, he, Sem.run_pure], .bool⟩
  · exact ⟨_, by simp only [Sem.run_bind, hg, Result.andThen_ok, h2, he, Sem.run_pure], .bool⟩
theorem eqV_agg {V : Env} {P : Program} {n : Nat} {t : TypeId} {xs : List AV} {y : AV} {q : Bool} (h : eqV V P n t (.agg xs) y = some q) : ∃ ys, y = .agg ys := by
  cases n with
  | zero => cases h
  | succ n =>
    change eqS (eqV V P n) V P t (.agg xs) y = some q at h
    unfold eqS at h
    cases y with
    | agg ys => exact ⟨ys, rfl⟩
    | _ =>
      revert h
      cases P.underlying t with
      | none => simp
      | some d => cases d <;> simp
theorem eqV_bool {V : Env} {P : Program} {n : Nat} {t : TypeId} {a : Bool} {y : AV} {q : Bool} (h : eqV V P n t (.bool a) y = some q) : ∃ b, y = .bool b := by
  cases n with
  | zero => cases h
  | succ n =>
    change eqS (eqV V P n) V P t (.bool a) y = some q at h
    unfold eqS at h
    cases y with
    | bool b => exact ⟨b, rfl⟩
    | _ =>
      revert h
      cases P.underlying t with
      | none => simp
      | some d => cases d <;> simp
theorem evBin2_says {P : Program} {V : Env} {Γ : Gam} (hV : V.Ok Γ.ρ) {w : World} {op : BinOp} {t : TypeId} {xo yo : Operand} {x y : AV} {a b : Value} {r : AV} (hx : VR Γ x a) (hy : VR Γ y b) (h : evBin2 V P op t x y = some r) :
    Says P Γ w (do eqGuard op t xo yo a b; Go.binOp op t a b) r := by
  unfold evBin2 at h
  split at h
  · split at h
    · cases hx with
      | int e1 =>
      cases hy with
      | int e2 =>
      subst e1 e2
      exact evII_says hV h
    · cases h
  · split at h
    · cases hx with
      | str e1 =>
      cases hy with
      | str e2 =>
      subst e1 e2
      exact evSS_says h
    · cases h
  · rename_i i
    split at h
    · rename_i j
      split at h
      · rename_i hij
        obtain rfl := natIs_eq hij
        cases hx with
        | tok e1 =>
        cases hy with
        | tok e2 =>
        subst e1 e2
        refine evSS_says ?_
        cases op <;> simp only [flip, boolO] at h <;> first | (cases h; done) | (obtain rfl := Option.some.inj h)
        · simp only [evSS]; rw [eqBytes_eq]; simp
        · simp only [evSS]; rw [eqBytes_eq]; simp
      · cases h
    · cases h
  · rename_i xs
    split at h
    · rename_i hgd
      split at h
      · rename_i q hq
        obtain ⟨ys, rfl⟩ := eqV_agg hq
        obtain ⟨m1, rfl, hm1⟩ := hx.of_agg
        obtain ⟨m2, rfl, hm2⟩ := hy.of_agg
        have he : (Op.equal t (.agg m1) (.agg m2)).run P w = .ok q w := eqV_ok hV 10000 t _ _ q _ _ w hx hy hq
        exact flip_says (fun op => run_eqGuard_agg w op t xo yo m1 m2 hgd) he rfl rfl h
      · cases h
    · cases h
  · split at h
    · rename_i q hq
      obtain ⟨ys, rfl⟩ := eqV_bool hq
      have he : (Op.equal t a b).run P w = .ok q w := eqV_ok hV 10000 t _ _ q _ _ w hx hy hq
      cases hx; cases hy
      exact flip_says (fun op => by cases op <;> rfl) he rfl rfl h
    · cases h
  · split at h
    · rename_i q hq
      obtain ⟨h1, h2⟩ := isNil_ok (P := P) (w := w) hx hy hq 9999
      unfold isNil at hq
      have : (Go.binOp .eql t a b = (do Pure.pure (.bool (← Op.equal t a b)))) ∧ (Go.binOp .neq t a b = (do Pure.pure (.bool (!(← Op.equal t a b))))) := by
        repeat' (split at hq)
        all_goals first
          | (cases hq; done)
          | (cases hx; cases hy; exact ⟨rfl, rfl⟩)
      exact flip_says (fun op => h2 op xo yo) h1 this.1 this.2 h
    · cases h
end
end Go.Proofs.YtnikgcedifdaeaaGreatDoor.Ab
end

section
/- One operation, whichever it be. Plain. -/
namespace Go.Proofs.YtnikgcedifdaeaaGreatDoor.Ab
open Go
noncomputable section
/-- A row that a call hands back: its cells, what they are, how many elements, and the code beside it. -/
structure LR where
  cs : List AV
  elem : TypeId
  sz : Nat
  n : Nat
  tup : Option Int
  opn : Bool
  box : Option (List AV × List AV)
def LR.code (x : LR) : Int := match x.tup with
  | none => 0
  | some e => e
def LR.av (x : LR) (b : Nat) : AV := match x.box with
  | none => (match x.tup with
    | none => .slice b 0 x.n x.n x.opn
    | some e => .tuple [.slice b 0 x.n x.n x.opn, .int .i64 (.lit e)])
  | some y => .tuple [.agg (y.1 ++ .slice b 0 x.n x.n x.opn :: y.2), .int .i64 (.lit x.code)]
def LR.sl (x : LR) (c s : Nat) : Value := .slice (some ⟨c, 0, none⟩) x.n (bif x.opn then x.n + s else x.n)
def LR.val (x : LR) (c s : Nat) : Value := match x.tup with
  | none => x.sl c s
  | some e => .tuple #[x.sl c s, .int .i64 e]
/-- The value that stands for it: the row alone, beside a code, or in a struct. -/
inductive LR.Is (Γ : Gam) (x : LR) (c s : Nat) : Value → Prop
  | plain : x.box = none → LR.Is Γ x c s (x.val c s)
  | box {a1 a2 : List AV} {m1 m2 : List Value} : x.box = some (a1, a2) → VRs Γ a1 m1 → VRs Γ a2 m2 → LR.Is Γ x c s (.tuple #[.agg (m1 ++ x.sl c s :: m2).toArray, .int .i64 x.code])
theorem LR.Is.mono {Γ Γ' : Gam} (hl : Γ.Le Γ') {x : LR} {c s : Nat} {v : Value} (h : LR.Is Γ x c s v) : LR.Is Γ' x c s v := by
  cases h with
  | plain hb => exact .plain hb
  | box hb h1 h2 => exact .box hb (h1.mono hl) (h2.mono hl)
/-- The program; what is known of the unknowns; the functions that are walked; what is known of calls; the variables that lie where they lie. -/
structure Cfg where
  P : Program
  V : Env
  F : Tr Func
  O : Nat → List AV → Option AV
  L : Nat → List AV → Option LR
  gl : Nat → Bool
structure Same (w w' : World) : Prop where
  heap : ∀ c, c < w.heap.size → w'.heap[c]? = w.heap[c]?
  size : w.heap.size ≤ w'.heap.size
  tape : w'.tape = w.tape
  os : w'.os = w.os
  output : w'.output = w.output
  drawn : w.drawn ≤ w'.drawn
structure Cfg.Ok (C : Cfg) (ρ : Nat → Int) (W : World) : Prop where
  env : C.V.Ok ρ
  mixed : C.P.follows .mixedOrders = true
  fns : ∀ f fn, C.F.get f = some fn → C.P.funcs[f]? = some fn ∧ (fn.name == "runtime.NumGoroutine") = false
  orc : ∀ f l r, C.O f l = some r → (∃ fn c, C.P.funcs[f]? = some fn ∧ (fn.name == "runtime.NumGoroutine") = false ∧ fn.body = some c) ∧
    ∀ (Γ : Gam) (A : AH) (w : World) (vs : Array Value), Γ.ρ = ρ → Γ.W = W → HR Γ A w → VRs Γ l vs.toList → Calls C.P f vs w fun e w' => ∃ v, e = .returned v ∧ VR Γ r v ∧ Same w w'
  lst : ∀ f l x, C.L f l = some x → (∃ fn c, C.P.funcs[f]? = some fn ∧ (fn.name == "runtime.NumGoroutine") = false ∧ fn.body = some c) ∧
    ∀ (Γ : Gam) (A : AH) (w : World) (vs : Array Value), Γ.ρ = ρ → Γ.W = W → HR Γ A w → VRs Γ l vs.toList → Calls C.P f vs w fun e w' => ∃ c s arr v, e = .returned v ∧ LR.Is Γ x c s v ∧ w.heap.size ≤ c ∧ w'.heap[c]? = some (.cells arr x.elem (0, 0)) ∧
      arr.size = x.cs.length + s * x.sz ∧ VRs Γ x.cs (arr.toList.take x.cs.length) ∧ Same w w'
theorem LR.vr {Γ : Gam} {x : LR} {b c s : Nat} (h : Γ.β b = some (c, s)) {v : Value} (hv : LR.Is Γ x c s v) : VR Γ (x.av b) v := by
  unfold LR.av
  cases hv with
  | plain hb =>
    rw [hb]
    unfold LR.val LR.sl
    cases x.tup with
    | none => exact .slice h rfl
    | some e => exact .tuple' (.cons (.slice h rfl) (.cons (.int (den_lit _ _).symm) .nil))
  | box hb h1 h2 =>
    rw [hb]
    exact .tuple' (.cons (.agg' (by simpa [LR.sl] using h1.append (.cons (.slice h rfl) h2))) (.cons (.int (den_lit _ _).symm) .nil))
def GL (C : Cfg) (Γ : Gam) : Prop := ∀ g, C.gl g = true → Γ.β g = some (g, 0)
theorem GL.mono {C : Cfg} {Γ Γ' : Gam} (h : GL C Γ) (hl : Γ.Le Γ') : GL C Γ' := fun g hg => hl.β _ _ (h g hg)
def val (C : Cfg) (T : Tr AV) : Operand → AV
  | .tmp t => match T.get t with
    | some a => a
    | none => .any
  | .const v => match AV.of v with
    | some a => a
    | none => .any
  | .global g => match C.gl g with
    | true => .ptr g 0
    | false => .any
  | .func f => .func (.func f) [] []
structure TR (Γ : Gam) (N : Nat) (T : Tr AV) (τ : Array Value) : Prop where
  size : τ.size = N
  at_ : ∀ t a, T.get t = some a → ∃ v, τ[t]? = some v ∧ VR Γ a v
theorem TR.mono {Γ Γ' : Gam} {N : Nat} {T : Tr AV} {τ : Array Value} (h : TR Γ N T τ) (hl : Γ.Le Γ') : TR Γ' N T τ := ⟨h.size, fun t a e => (h.at_ t a e).imp fun _ x => ⟨x.1, x.2.mono hl⟩⟩
theorem val_ok {C : Cfg} {Γ : Gam} {N : Nat} {T : Tr AV} {a : Act} (hg : GL C Γ) (hT : TR Γ N T a.tmps) (x : Operand) : VR Γ (val C T x) (a.eval x) := by
  cases x with
  | tmp t =>
    unfold val
    dsimp only
    split
    · rename_i b hb
      obtain ⟨v, h1, h2⟩ := hT.at_ t b hb
      have : a.eval (.tmp t) = v := by simp [Act.eval, Array.getD_eq_getD_getElem?, h1]
      rw [this]; exact h2
    · exact .any
  | const v =>
    unfold val
    dsimp only
    split
    · rename_i b hb; exact .of_val hb
    · exact .any
  | global g =>
    unfold val
    dsimp only
    split
    · rename_i h; exact .ptr (hg g h)
    · exact .any
  | func f => exact .func rfl (fun i a v h => by simp at h) rfl (fun i a v h => by simp at h)
def putT (N : Nat) (T : Tr AV) (dst : Option Nat) (r : AV) : Option (Tr AV) := match dst with
  | none => some T
  | some d => match Nat.blt d N with
    | true => some (T.set r 12 d)
    | false => none
theorem putT_ok {Γ : Gam} {N : Nat} {T T' : Tr AV} {a : Act} {dst : Option Nat} {r : AV} {v : Value} (hT : TR Γ N T a.tmps) (hv : VR Γ r v) (h : putT N T dst r = some T') : TR Γ N T' (a.put dst v).tmps ∧ (a.put dst v).defers = a.defers := by
  unfold putT at h
  split at h
  · obtain rfl := Option.some.inj h; exact ⟨hT, rfl⟩
  · rename_i d
    split at h
    · rename_i hd
      have hd : d < N := Nat.le_of_ble_eq_true hd
      obtain rfl := Option.some.inj h
      refine ⟨⟨by simp [Act.put, hT.size], fun t x e => ?_⟩, rfl⟩
      simp only [Act.put]
      rcases Tr.get_set 12 T d t e with ⟨rfl, rfl⟩ | ⟨hne, e⟩
      · exact ⟨v, Array.getElem?_setIfInBounds_self_of_lt (by rw [hT.size]; exact hd), hv⟩
      · rw [Array.getElem?_setIfInBounds_ne (Ne.symm hne)]; exact hT.at_ t x e
    · cases h
def mapG (g : Operand → AV) : List Operand → List AV
  | [] => []
  | x :: r => g x :: mapG g r
theorem mapG_ok {Γ : Gam} {g : Operand → AV} {ρ : Operand → Value} (hg : ∀ x, VR Γ (g x) (ρ x)) : ∀ l, VRs Γ (mapG g l) (l.map ρ)
  | [] => .nil
  | x :: r => .cons (hg x) (mapG_ok hg r)
def optG (g : Operand → AV) : Option Operand → Option AV
  | none => none
  | some x => some (g x)
inductive R where
  | val (a : AV) (A : AH)
  | call (f : Nat) (args : List AV)
def one (x : Option AV) (A : AH) : Option R := match x with
  | some r => some (.val r A)
  | none => none
def two (x : Option (AV × AH)) : Option R := match x with
  | some (r, A) => some (.val r A)
  | none => none
def upd (x : Option AH) : Option R := match x with
  | some A => some (.val (.tuple []) A)
  | none => none
def evPick (c a b : AV) : Option AV := match c with
  | .bool t => some (match t with | true => a | false => b)
  | _ => none
def evFunc (f : AV) (args : List AV) : Option R := match f with
  | .func (.func n) l m => some (.call n (l ++ args ++ m))
  | _ => none
/-- The lesser one, the greater one. -/
def evMin (V : Env) (x y : AV) : Option AV := match x, y with
  | .int k a, .int m b => match IntKind.same k m with
    | true => match V.le a b with
      | some true => some (.int k a)
      | some false => some (.int k b)
      | none => none
    | false => none
  | _, _ => none
def evMax (V : Env) (x y : AV) : Option AV := match x, y with
  | .int k a, .int m b => match IntKind.same k m with
    | true => match V.le b a with
      | some true => some (.int k a)
      | some false => some (.int k b)
      | none => none
    | false => none
  | _, _ => none
theorem evMin_says {P : Program} {Γ : Gam} {w : World} {V : Env} (hV : V.Ok Γ.ρ) {x y r : AV} {a b : Value} (hx : VR Γ x a) (hy : VR Γ y b) (ats : Array TypeId) (t : TypeId) (h : evMin V x y = some r) : Says P Γ w (Builtin.min_ ats t #[a, b]) r := by
  unfold evMin at h
  split at h
  · rename_i k e1 m e2
    split at h
    · rename_i hk
      obtain rfl := IntKind.same_eq hk
      cases hx with
      | int q1 =>
      rename_i n1
      cases hy with
      | int q2 =>
      rename_i n2
      have run : (Builtin.min_ ats t #[.int k n1, .int k n2]).run P w = .ok (.int k (if n2 < n1 then n2 else n1)) w := by
        simp [Builtin.min_, Builtin.min2, Sem.run_pure]
      split at h
      · rename_i hl
        obtain rfl := Option.some.inj h
        have := le_iff hV hl
        have := of_decide_eq_true this.symm
        rw [if_neg (by omega)] at run
        exact ⟨_, run, .int q1⟩
      · rename_i hl
        obtain rfl := Option.some.inj h
        have := le_iff hV hl
        have := of_decide_eq_false this.symm
        rw [if_pos (by omega)] at run
        exact ⟨_, run, .int q2⟩
      · cases h
    · cases h
  · cases h
theorem evMax_says {P : Program} {Γ : Gam} {w : World} {V : Env} (hV : V.Ok Γ.ρ) {x y r : AV} {a b : Value} (hx : VR Γ x a) (hy : VR Γ y b) (ats : Array TypeId) (t : TypeId) (h : evMax V x y = some r) : Says P Γ w (Builtin.max_ ats t #[a, b]) r := by
  unfold evMax at h
  split at h
  · rename_i k e1 m e2
    split at h
    · rename_i hk
      obtain rfl := IntKind.same_eq hk
      cases hx with
      | int q1 =>
      rename_i n1
      cases hy with
      | int q2 =>
      rename_i n2
      have run : (Builtin.max_ ats t #[.int k n1, .int k n2]).run P w = .ok (.int k (if n2 > n1 then n2 else n1)) w := by
        simp [Builtin.max_, Builtin.max2, Sem.run_pure]
      split at h
      · rename_i hl
        obtain rfl := Option.some.inj h
        have := le_iff hV hl
        have := of_decide_eq_true this.symm
        rw [if_neg (by omega)] at run
        exact ⟨_, run, .int q1⟩
      · rename_i hl
        obtain rfl := Option.some.inj h
        have := le_iff hV hl
        have := of_decide_eq_false this.symm
        rw [if_pos (by omega)] at run
        exact ⟨_, run, .int q2⟩
      · cases h
    · cases h
  · cases h
def evCall (C : Cfg) (g : Operand → AV) (A : AH) (c : Call) : Option R := match c.callee with
  | .value f => evFunc (g f) (mapG g c.args.toList)
  | .builtin b => match b with
    | .append => match c.argTypes.toList, c.args.toList with
      | [t, u], [x, y] => match natIs t u with
        | true => two (evAppend C.P A t (g x) (g y))
        | false => none
      | _, _ => none
    | .len => match c.argTypes.toList, c.args.toList with
      | [t], [x] => match evLen C.P A t (g x) with
        | some n => some (.val (.int .i64 (.lit (.ofNat n))) A)
        | none => none
      | _, _ => none
    | .min => match c.args.toList with
      | [x, y] => one (evMin C.V (g x) (g y)) A
      | _ => none
    | .max => match c.args.toList with
      | [x, y] => one (evMax C.V (g x) (g y)) A
      | _ => none
    | _ => none
  | .invoke _ _ => none
def evOp (C : Cfg) (g : Operand → AV) (A : AH) (o : Oper) : Option R := match o.op with
  | .move x | .assign x => some (.val (g x) A)
  | .pick c a b => one (evPick (g c) (g a) (g b)) A
  | .alloc t => two (evAlloc C.P A t)
  | .box t x => two (evBox A t (g x))
  | .build t ps => one (evBuild C.P t (evParts g ps.toList)) A
  | .buildSlice t n ps => two (evBuildSlice C.P A t n (evParts g ps.toList))
  | .load t a => one (evLoad C.P A t (g a)) A
  | .store t a x => upd (evStore C.P A t (g a) (g x))
  | .nilCheck x => one (evNilCheck (g x)) A
  | .binOp op t x y _ => one (evBin2 C.V C.P op t (g x) (g y)) A
  | .unOp op _ x => one (evUn C.V op (g x)) A
  | .convert s d x => one (evConv C.V C.P s d (g x)) A
  | .makeInterface t x => one (evIface C.P t (g x)) A
  | .makeFunc fn l m => some (.val (.func fn (mapG g l.toList) (mapG g m.toList)) A)
  | .makeMap _ r => two (evMakeMap A r)
  | .makeChan t s => two (evMakeChan C.P A t (g s))
  | .makeSlice t l c => two (evMakeSlice C.P A t (g l) (g c))
  | .slice t x lo hi mx => one (evSlice C.P t (g x) (optG g lo) (optG g hi) (optG g mx)) A
  | .fieldAddr s x f => one (evFieldAddr C.P s (g x) f) A
  | .field t x f => one (evField C.P t (g x) f) A
  | .indexAddr t x i => one (evIndexAddr C.P t (g x) (g i)) A
  | .index t x i => one (evIndex C.P t (g x) (g i)) A
  | .lookup t x k ok => one (evLookup C.P C.V A t (g x) (g k) ok) A
  | .mapUpdate t m k x | .insert t m k x => upd (evUpdate C.P C.V A t (g m) (g k) (g x))
  | .range t x => two (evRange C.P A t (g x))
  | .extract t n => one (evExtract (g t) n) A
  | .call c => evCall C g A c
  | _ => none
/-- It answers, with a value or with none. -/
def Answers (P : Program) (x : Sem Next) (w : World) (v : Value) (w' : World) : Prop := x.run P w = .ok (.value v) w' ∨ (x.run P w = .ok .skip w' ∧ v = undef)
def OpDoes (C : Cfg) (Γ : Gam) (A : AH) (w : World) (x : Sem Next) (q : R) : Prop := match q with
  | .val r A' => Free Γ A.next A'.next → ∃ v w' Γ', Answers C.P x w v w' ∧ Adv Γ A w Γ' A' w' ∧ VR Γ' r v
  | .call f args => ∃ vs, VRs Γ args vs.toList ∧ ∀ fn c, C.P.funcs[f]? = some fn → (fn.name == "runtime.NumGoroutine") = false → fn.body = some c → x.run C.P w = .ok (.enter f vs) w
section
variable {C : Cfg} {Γ : Gam} {A : AH} {w : World}
theorem one_does {y : Option AV} {q : R} (hr : HR Γ A w) (x : Sem Value) (h : one y A = some q) (hs : ∀ r, y = some r → Says C.P Γ w x r) : OpDoes C Γ A w (do Pure.pure (.value (← x))) q := by
  unfold one at h
  split at h
  · rename_i r
    obtain rfl := Option.some.inj h
    intro _
    obtain ⟨v, h1, h2⟩ := hs r rfl
    exact ⟨v, w, Γ, .inl (by simp only [Sem.run_bind, h1, Result.andThen_ok, Sem.run_pure]), Adv.refl hr, h2⟩
  · cases h
theorem two_does {y : Option (AV × AH)} {q : R} (x : Sem Value) (h : two y = some q) (hs : ∀ r A', y = some (r, A') → Does C.P Γ A w x r A') : OpDoes C Γ A w (do Pure.pure (.value (← x))) q := by
  unfold two at h
  split at h
  · rename_i r A'
    obtain rfl := Option.some.inj h
    intro hf
    obtain ⟨v, w', Γ', h1, h2, h3⟩ := hs r A' rfl hf
    exact ⟨v, w', Γ', .inl (by simp only [Sem.run_bind, h1, Result.andThen_ok, Sem.run_pure]), h2, h3⟩
  · cases h
theorem upd_does {y : Option AH} {q : R} (x : Sem Unit) (h : upd y = some q) (hs : ∀ A', y = some A' → ∃ w', x.run C.P w = .ok () w' ∧ Adv Γ A w Γ A' w') : OpDoes C Γ A w (do x; Pure.pure .skip) q := by
  unfold upd at h
  split at h
  · rename_i A'
    obtain rfl := Option.some.inj h
    intro hf
    obtain ⟨w', h1, h2⟩ := hs A' rfl
    exact ⟨undef, w', Γ, .inr ⟨by simp only [Sem.run_bind, h1, Result.andThen_ok, Sem.run_pure], rfl⟩, h2, .tuple' .nil⟩
  · cases h
theorem enters {f : Nat} {vs : Array Value} {fn : Func} {c : Code} (hf : C.P.funcs[f]? = some fn) (hn : (fn.name == "runtime.NumGoroutine") = false) (hb : fn.body = some c) : (callFunc f vs).run C.P w = .ok (.enter f vs) w := by
  have hn' : ¬ fn.name = "runtime.NumGoroutine" := by simpa using hn
  unfold callFunc
  simp [hf, hn', hb]
theorem optG_some {g : Operand → AV} {ρ : Operand → Value} (hg : ∀ x, VR Γ (g x) (ρ x)) (o : Option Operand) : ∀ x, optG g o = some x → ∃ v, o.map ρ = some v ∧ VR Γ x v := by
  intro x h
  cases o with
  | none => cases h
  | some y => obtain rfl := Option.some.inj h; exact ⟨_, rfl, hg y⟩
theorem optG_none {g : Operand → AV} {ρ : Operand → Value} (o : Option Operand) : optG g o = none → o.map ρ = none := by
  cases o with
  | none => intro _; rfl
  | some y => intro h; cases h
theorem arr2 {α : Type} {a : Array α} {l : List α} (h : a.toList = l) : a = l.toArray := by rw [← h]
theorem evOp_does {ρ' : Nat → Int} {W : World} (hC : C.Ok ρ' W) (hρ : Γ.ρ = ρ') (hr : HR Γ A w) {g : Operand → AV} {ρ : Operand → Value} (hg : ∀ x, VR Γ (g x) (ρ x)) {o : Oper} {q : R} (h : evOp C g A o = some q) : OpDoes C Γ A w (execOp ρ o) q := by
  have hV : C.V.Ok Γ.ρ := by rw [hρ]; exact hC.env
  unfold evOp at h
  unfold execOp
  cases hop : o.op <;> rw [hop] at h <;> dsimp only at h ⊢
  case move x => obtain rfl := Option.some.inj h; exact fun _ => ⟨_, w, Γ, .inl rfl, Adv.refl hr, hg x⟩
  case assign x => obtain rfl := Option.some.inj h; exact fun _ => ⟨_, w, Γ, .inl rfl, Adv.refl hr, hg x⟩
  case pick c a b =>
    have hc := hg c
    unfold one evPick at h
    split at h
    · rename_i r hp
      obtain rfl := Option.some.inj h
      split at hp
      · rename_i t ht
        obtain rfl := Option.some.inj hp
        rw [ht] at hc
        generalize ρ c = vc at hc
        cases hc
        intro _
        cases t with
        | true => exact ⟨ρ a, w, Γ, .inl (by simp [asBool]), Adv.refl hr, hg a⟩
        | false => exact ⟨ρ b, w, Γ, .inl (by simp [asBool]), Adv.refl hr, hg b⟩
      · cases hp
    · cases h
  case alloc t => exact two_does _ h fun r A' e => evAlloc_does hr e
  case box t x => exact two_does _ h fun r A' e => evBox_does hr (hg x) e
  case build t ps => exact one_does hr _ h fun r e => evBuild_says hg e
  case buildSlice t n ps => exact two_does _ h fun r A' e => evBuildSlice_does hr hg e
  case load t a => exact one_does hr _ h fun r e => evLoad_says hr (hg a) e
  case store t a x => exact upd_does _ h fun A' e => evStore_does hr (hg a) (hg x) e
  case nilCheck x =>
    unfold one at h
    split at h
    · rename_i r he
      obtain rfl := Option.some.inj h
      intro _
      obtain ⟨v, h1, h2⟩ := evNilCheck_says (P := C.P) (w := w) (ρ := ρ) (o := x) (q := o) (hg x) rfl hop he
      unfold execOp at h1
      rw [hop] at h1
      exact ⟨v, w, Γ, .inl h1, Adv.refl hr, h2⟩
    · cases h
  case binOp op t x y u => exact one_does hr _ h fun r e => evBin2_says hV (hg x) (hg y) e
  case unOp op t x => exact one_does hr _ h fun r e => evUn_says hV (hg x) e
  case convert s d x => exact one_does hr _ h fun r e => evConv_says hV (hg x) e
  case makeInterface t x => exact one_does hr _ h fun r e => evIface_says (hg x) e
  case makeFunc fn l m =>
    obtain rfl := Option.some.inj h
    intro _
    have h1 := mapG_ok hg l.toList
    have h2 := mapG_ok hg m.toList
    exact ⟨.func fn (l.map ρ) (m.map ρ), w, Γ, .inl rfl, Adv.refl hr, .func (by simpa using h1.len) (fun i a v x y => h1.at_ i a v x (by simpa using y)) (by simpa using h2.len) (fun i a v x y => h2.at_ i a v x (by simpa using y))⟩
  case makeMap t r => exact two_does _ h fun r' A' e => evMakeMap_does hr e
  case makeChan t s => exact two_does _ h fun r A' e => evMakeChan_does hr (hg s) e
  case makeSlice t l c => exact two_does _ h fun r A' e => evMakeSlice_does hr (hg l) (hg c) e
  case slice t x lo hi mx => exact one_does hr _ h fun r e => evSlice_says (hg x) (optG_some hg lo) (optG_none lo) (optG_some hg hi) (optG_none hi) (optG_none mx) e
  case fieldAddr s x f => exact one_does hr _ h fun r e => evFieldAddr_says (hg x) e
  case field t x f => exact one_does hr _ h fun r e => evField_says (hg x) e
  case indexAddr t x i => exact one_does hr _ h fun r e => evIndexAddr_says (hg x) (hg i) e
  case index t x i => exact one_does hr _ h fun r e => evIndex_says (hg x) (hg i) e
  case lookup t x k ok => exact one_does hr _ h fun r e => evLookup_says hV hr (hg x) (hg k) e
  case mapUpdate t m k x => exact upd_does _ h fun A' e => evUpdate_does hV hr (hg m) (hg k) (hg x) e
  case insert t m k x => exact upd_does _ h fun A' e => evUpdate_does hV hr (hg m) (hg k) (hg x) e
  case range t x => exact two_does _ h fun r A' e => evRange_does hr (hg x) e
  case extract t n => exact one_does hr _ h fun r e => evExtract_says (hg t) e
  case call c =>
    unfold evCall at h
    unfold resolve
    cases hcal : c.callee <;> rw [hcal] at h <;> dsimp only at h ⊢
    case value f =>
      have hf := hg f
      unfold evFunc at h
      split at h
      · rename_i n l m hfe
        obtain rfl := Option.some.inj h
        rw [hfe] at hf
        generalize ρ f = vf at hf
        cases hf with
        | func h1 h2 h3 h4 =>
        rename_i m1 m2
        refine ⟨m1 ++ c.args.map ρ ++ m2, ?_, fun fn cc e1 e2 e3 => ?_⟩
        · have a1 : VRs Γ l m1.toList := ⟨by simpa using h1, fun i a v x y => h2 i a v x (by simpa using y)⟩
          have a3 : VRs Γ m m2.toList := ⟨by simpa using h3, fun i a v x y => h4 i a v x (by simpa using y)⟩
          have a2 := mapG_ok hg c.args.toList
          have := (a1.append a2).append a3
          simpa using this
        · simp only [Deferred.ofValue, Sem.run_bind, Sem.run_pure, Result.andThen_ok, invoke]
          exact enters e1 e2 e3
      · cases h
    case builtin b =>
      cases b <;> dsimp only at h
      case append =>
        split at h
        · rename_i t u x y e1 e2
          split at h
          · rename_i htu
            obtain rfl := natIs_eq htu
            have e1 := arr2 e1
            have e2 := arr2 e2
            have e3 : c.args.map ρ = #[ρ x, ρ y] := by rw [e2]; simp
            have hd := two_does (C := C) (Γ := Γ) (A := A) (w := w) (Builtin.append_ #[t, t] o.type #[ρ x, ρ y]) h fun r A' e => evAppend_does hr (hg x) (hg y) e
            simp only [Sem.run_bind, Sem.run_pure, Result.andThen_ok, invoke, builtin, e1, e3]
            exact hd
          · cases h
        · cases h
      case len =>
        split at h
        · rename_i t x e1 e2
          split at h
          · rename_i n hn
            obtain rfl := Option.some.inj h
            have e1 := arr2 e1
            have e2 := arr2 e2
            have e3 : c.args.map ρ = #[ρ x] := by rw [e2]; simp
            obtain ⟨v, h1, h2⟩ := evLen_says (P := C.P) (ty := o.type) hr (hg x) hn
            intro _
            refine ⟨v, w, Γ, .inl ?_, Adv.refl hr, h2⟩
            simp only [Sem.run_bind, Sem.run_pure, Result.andThen_ok, invoke, builtin, e1, e3, h1]
          · cases h
        · cases h
      case min =>
        split at h
        · rename_i x y e2
          have e2 := arr2 e2
          have e3 : c.args.map ρ = #[ρ x, ρ y] := by rw [e2]; simp
          have hd := one_does (C := C) (Γ := Γ) (A := A) (w := w) hr (Builtin.min_ c.argTypes o.type #[ρ x, ρ y]) h fun r e => evMin_says hV (hg x) (hg y) _ _ e
          simp only [Sem.run_bind, Sem.run_pure, Result.andThen_ok, invoke, builtin, e3]
          exact hd
        · cases h
      case max =>
        split at h
        · rename_i x y e2
          have e2 := arr2 e2
          have e3 : c.args.map ρ = #[ρ x, ρ y] := by rw [e2]; simp
          have hd := one_does (C := C) (Γ := Γ) (A := A) (w := w) hr (Builtin.max_ c.argTypes o.type #[ρ x, ρ y]) h fun r e => evMax_says hV (hg x) (hg y) _ _ e
          simp only [Sem.run_bind, Sem.run_pure, Result.andThen_ok, invoke, builtin, e3]
          exact hd
        · cases h
      all_goals cases h
    case invoke r n => cases h
  all_goals cases h
end
end
end Go.Proofs.YtnikgcedifdaeaaGreatDoor.Ab
end

section
/- Operations one behind the other, in the text's order. Plain. -/
namespace Go.Proofs.YtnikgcedifdaeaaGreatDoor.Ab
open Go
noncomputable section
structure St where
  T : Tr AV
  A : AH
/-- What is asked of the frame around: the unknowns, the world at the start. -/
structure Fits (C : Cfg) (ρ : Nat → Int) (W : World) (Γ : Gam) : Prop where
  ρ : Γ.ρ = ρ
  W : Γ.W = W
  gl : GL C Γ
theorem Fits.mono {C : Cfg} {ρ : Nat → Int} {W : World} {Γ Γ' : Gam} (h : Fits C ρ W Γ) (hl : Γ.Le Γ') : Fits C ρ W Γ' := ⟨hl.ρ.trans h.ρ, hl.W.trans h.W, h.gl.mono hl⟩
/-- How a call comes back. -/
def Back (Γ : Gam) (A : AH) (w : World) (r : AV) (A' : AH) (e : Ending) (w' : World) : Prop := ∃ v Γ', e = .returned v ∧ VR Γ' r v ∧ Adv Γ A w Γ' A' w'
abbrev CallFn := Nat → List AV → AH → Option (AV × AH)
def CallOk (C : Cfg) (ρ : Nat → Int) (W : World) (call : CallFn) : Prop := ∀ f l A r A', call f l A = some (r, A') → (∃ fn c, C.P.funcs[f]? = some fn ∧ (fn.name == "runtime.NumGoroutine") = false ∧ fn.body = some c) ∧
  ∀ (Γ : Gam) (w : World) (vs : Array Value), Fits C ρ W Γ → HR Γ A w → VRs Γ l vs.toList → Free Γ A.next A'.next → Calls C.P f vs w (Back Γ A w r A')
def stepA (call : CallFn) (C : Cfg) (g : Operand → AV) (A : AH) (o : Oper) : Option (AV × AH) := match evOp C g A o with
  | some (.val r A') => some (r, A')
  | some (.call f l) => call f l A
  | none => none
section
variable {C : Cfg} {ρ : Nat → Int} {W : World} {call : CallFn}
theorem Calls.exists {P : Program} {f : FuncId} {args : Array Value} {w : World} {R : Ending → World → Prop} (h : Calls P f args w R) : ∃ e w', R e w' := by
  obtain ⟨e, w', _, h, _⟩ := h []
  exact ⟨e, w', h⟩
theorem stepA_wp (hC : C.Ok ρ W) (hcall : CallOk C ρ W call) {Γ : Gam} {A A' : AH} {w : World} {a : Act} {o : Oper} {g : Operand → AV} {r : AV} (hfit : Fits C ρ W Γ) (hr : HR Γ A w) (hg : ∀ x, VR Γ (g x) (a.eval x)) (h : stepA call C g A o = some (r, A')) (hf : Free Γ A.next A'.next)
    {next : Act → World → Prop} {Q : Exit → Act → World → Prop} (hn : ∀ v w' Γ', Adv Γ A w Γ' A' w' → VR Γ' r v → next (a.put o.dst v) w') : o.wp C.P a w next Q := by
  unfold stepA at h
  split at h
  · rename_i r' A'' he
    obtain ⟨rfl, rfl⟩ := Prod.mk.inj (Option.some.inj h)
    obtain ⟨v, w', Γ', h1, h2, h3⟩ := evOp_does hC hfit.ρ hr hg he hf
    unfold Oper.wp
    rcases h1 with h1 | ⟨h1, rfl⟩
    · rw [h1]; exact hn v w' Γ' h2 h3
    · rw [h1]; exact hn undef w' Γ' h2 h3
  · rename_i f l he
    obtain ⟨vs, h1, h2⟩ := evOp_does hC hfit.ρ hr hg he
    obtain ⟨⟨fn, c, e1, e2, e3⟩, hcalls⟩ := hcall f l A r A' h
    have hc := hcalls Γ w vs hfit hr h1 hf
    unfold Oper.wp
    rw [h2 fn c e1 e2 e3]
    refine Calls.mono hc fun e w' hb => ?_
    obtain ⟨v, Γ', rfl, h3, h4⟩ := hb
    exact hn v w' Γ' h4 h3
  · cases h
/-- The same, told without the run: there is such a value. -/
theorem stepA_ex (hC : C.Ok ρ W) (hcall : CallOk C ρ W call) {Γ : Gam} {A A' : AH} {w : World} {σ : Operand → Value} {o : Oper} {g : Operand → AV} {r : AV} (hfit : Fits C ρ W Γ) (hr : HR Γ A w) (hg : ∀ x, VR Γ (g x) (σ x)) (h : stepA call C g A o = some (r, A')) (hf : Free Γ A.next A'.next) :
    ∃ v w' Γ', Adv Γ A w Γ' A' w' ∧ VR Γ' r v := by
  unfold stepA at h
  split at h
  · rename_i r' A'' he
    obtain ⟨rfl, rfl⟩ := Prod.mk.inj (Option.some.inj h)
    obtain ⟨v, w', Γ', _, h2, h3⟩ := evOp_does hC hfit.ρ hr hg he hf
    exact ⟨v, w', Γ', h2, h3⟩
  · rename_i f l he
    obtain ⟨vs, h1, h2⟩ := evOp_does hC hfit.ρ hr hg he
    obtain ⟨_, hcalls⟩ := hcall f l A r A' h
    obtain ⟨e, w', v, Γ', _, h3, h4⟩ := Calls.exists (hcalls Γ w vs hfit hr h1 hf)
    exact ⟨v, w', Γ', h4, h3⟩
  · cases h
end
def guardA (all : List Oper) (T : Tr AV) (o : Oper) : Option Bool := match o.guard with
  | none => some true
  | some (j, want) => match nth all j with
    | some p => match p.dst with
      | some d => match T.get d with
        | some (.bool b) => some (match b, want with | true, true => true | false, false => true | _, _ => false)
        | some (.tuple _) => some false
        | _ => none
      | none => none
    | none => none
theorem guardA_eq {ops : Array Oper} {T : Tr AV} {o : Oper} {tmps : Array Value} {t : Bool} (h : guardA ops.toList T o = some t) (hT : ∀ j b d p, o.guard = some (j, b) → ops[j]? = some p → p.dst = some d → (∀ x, T.get d = some (.bool x) → tmps[d]? = some (.bool x)) ∧ ∀ l, T.get d = some (.tuple l) → ∃ m, tmps[d]? = some (.tuple m)) :
    Region.wanted o (yielded ops tmps) = t := by
  unfold guardA at h
  unfold Region.wanted
  split at h
  · rename_i hg
    obtain rfl := Option.some.inj h
    rw [hg]
  · rename_i j want hg
    rw [hg]
    split at h
    · rename_i p hp
      have hp := nth_arr hp
      split at h
      · rename_i d hd
        split at h
        · rename_i b hb
          obtain rfl := Option.some.inj h
          have := (hT j want d p hg hp hd).1 b hb
          have hy : yielded ops tmps j = some b := by
            unfold yielded
            rw [hp]
            simp only [Option.bind_some, hd, this]
          show (yielded ops tmps j == some want) = _
          rw [hy]
          cases b <;> cases want <;> rfl
        · rename_i l hl
          obtain rfl := Option.some.inj h
          obtain ⟨m, hm⟩ := (hT j want d p hg hp hd).2 l hl
          have hy : yielded ops tmps j = none := by
            unfold yielded
            rw [hp]
            simp only [Option.bind_some, hd, hm]
          show (yielded ops tmps j == some want) = _
          rw [hy]
          rfl
        · cases h
      · cases h
    · cases h
/-- The guard's slot is none of the frame's. -/
def outside (N : Nat) (all : List Oper) (o : Oper) : Option Bool := match o.guard with
  | none => none
  | some (j, _) => match nth all j with
    | some p => match p.dst with
      | some d => bif Nat.ble N d then some false else none
      | none => none
    | none => none
def guardB (N : Nat) (all : List Oper) (T : Tr AV) (o : Oper) : Option Bool := match guardA all T o with
  | some t => some t
  | none => outside N all o
theorem outside_eq {N : Nat} {ops : Array Oper} {o : Oper} {tmps : Array Value} {t : Bool} (h : outside N ops.toList o = some t) (hN : tmps.size = N) : Region.wanted o (yielded ops tmps) = t := by
  unfold outside at h
  split at h
  · cases h
  · rename_i j b hg
    split at h
    · rename_i p hp
      have hp := nth_arr hp
      split at h
      · rename_i d hd
        cases hb : Nat.ble N d with
        | false => rw [hb] at h; cases h
        | true =>
          rw [hb] at h
          obtain rfl := Option.some.inj h
          have hle := Nat.le_of_ble_eq_true hb
          have hy : yielded ops tmps j = none := by
            unfold yielded
            rw [hp]
            simp only [Option.bind_some, hd]
            rw [Array.getElem?_eq_none (by omega)]
          unfold Region.wanted
          rw [hg]
          show (yielded ops tmps j == some b) = _
          rw [hy]
          rfl
      · cases h
    · cases h
/-- A slot that is none of the frame's is not written. -/
def putU (N : Nat) (T : Tr AV) (dst : Option Nat) (r : AV) : Option (Tr AV) := match putT N T dst r with
  | some T' => some T'
  | none => some T
theorem putU_ok {Γ : Gam} {N : Nat} {T T' : Tr AV} {a : Act} {dst : Option Nat} {r : AV} {v : Value} (hT : TR Γ N T a.tmps) (hv : VR Γ r v) (h : putU N T dst r = some T') : TR Γ N T' (a.put dst v).tmps ∧ (a.put dst v).defers = a.defers := by
  unfold putU at h
  split at h
  · rename_i T1 hp
    obtain rfl := Option.some.inj h
    exact putT_ok hT hv hp
  · rename_i hp
    obtain rfl := Option.some.inj h
    unfold putT at hp
    split at hp
    · cases hp
    · rename_i d
      split at hp
      · cases hp
      · rename_i hb
        have hge : ¬ d < N := fun hlt => by
          have : Nat.blt d N = true := Nat.ble_eq_true_of_le hlt
          rw [this] at hb
          cases hb
        have e : (a.put (some d) v).tmps = a.tmps := by
          simp only [Act.put]
          exact Array.setIfInBounds_eq_of_size_le (by rw [hT.size]; omega)
        exact ⟨by rw [e]; exact hT, rfl⟩
def ops1 (call : CallFn) (C : Cfg) (N : Nat) (all : List Oper) : List Oper → St → Option St
  | [], s => some s
  | o :: r, s => match guardB N all s.T o with
    | some true => match stepA call C (val C s.T) s.A o with
      | some (a, A') => match putU N s.T o.dst a with
        | some T' => ops1 call C N all r ⟨T', A'⟩
        | none => none
      | none => none
    | some false => match putU N s.T o.dst (.tuple []) with
      | some T' => ops1 call C N all r ⟨T', s.A⟩
      | none => none
    | none => none
/-- A state of the frame, and of memory. -/
structure Is (Γ : Gam) (N : Nat) (s : St) (a : Act) (w : World) : Prop where
  T : TR Γ N s.T a.tmps
  A : HR Γ s.A w
  d : a.defers = []
section
variable {C : Cfg} {ρ : Nat → Int} {W : World} {call : CallFn}
theorem undef_VR {Γ : Gam} : VR Γ (.tuple []) undef := .tuple' .nil
theorem Is.guard {Γ : Gam} {N : Nat} {s : St} {a : Act} {w : World} (h : Is Γ N s a w) {ops : Array Oper} {o : Oper} {t : Bool} (hg : guardA ops.toList s.T o = some t) : Region.wanted o (yielded ops a.tmps) = t :=
  guardA_eq hg fun j b d p _ _ _ => ⟨fun x hx => by
    obtain ⟨v, h1, h2⟩ := h.T.at_ d _ hx
    cases h2
    exact h1, fun l hl => by
    obtain ⟨v, h1, h2⟩ := h.T.at_ d _ hl
    obtain ⟨m, rfl, _⟩ := h2.of_tuple
    exact ⟨m, h1⟩⟩
theorem Is.guardB {Γ : Gam} {N : Nat} {s : St} {a : Act} {w : World} (h : Is Γ N s a w) {ops : Array Oper} {o : Oper} {t : Bool} (hg : guardB N ops.toList s.T o = some t) : Region.wanted o (yielded ops a.tmps) = t := by
  unfold Ab.guardB at hg
  split at hg
  · rename_i x hx
    obtain rfl := Option.some.inj hg
    exact h.guard hx
  · exact outside_eq hg h.T.size
end
end
end Go.Proofs.YtnikgcedifdaeaaGreatDoor.Ab
end

section
/- The counter of names never falls. Plain. -/
namespace Go.Proofs.YtnikgcedifdaeaaGreatDoor.Ab
open Go
noncomputable section
theorem newA_next {A A' : AH} {l : List AV} {e : TypeId} {sz : Nat} (h : newA A l e sz = some A') : A.next ≤ A'.next := by
  unfold newA at h
  split at h
  · obtain rfl := Option.some.inj h; exact Nat.le_succ _
  · cases h
theorem newO_next {A A' : AH} {o : AO} (h : newO A o = some A') : A.next ≤ A'.next := by
  unfold newO at h
  split at h
  · obtain rfl := Option.some.inj h; exact Nat.le_succ _
  · cases h
theorem evBox_next {A A' : AH} {t : TypeId} {x r : AV} (h : evBox A t x = some (r, A')) : A.next ≤ A'.next := by
  unfold evBox at h
  split at h
  · split at h
    · rename_i hA
      obtain ⟨_, rfl⟩ := Prod.mk.inj (Option.some.inj h)
      exact newA_next hA
    · cases h
  · cases h
theorem evAlloc_next {P : Program} {A A' : AH} {t : TypeId} {r : AV} (h : evAlloc P A t = some (r, A')) : A.next ≤ A'.next := by
  unfold evAlloc at h
  split at h
  · exact evBox_next h
  · cases h
theorem evBuildSlice_next {P : Program} {A A' : AH} {t : TypeId} {n : Nat} {ps : List (Nat × AV)} {r : AV} (h : evBuildSlice P A t n ps = some (r, A')) : A.next ≤ A'.next := by
  unfold evBuildSlice at h
  repeat' (split at h)
  all_goals first
    | cases h; done
    | (rename_i hA; obtain ⟨_, rfl⟩ := Prod.mk.inj (Option.some.inj h); exact newA_next hA)
theorem evMakeSlice_next {P : Program} {A A' : AH} {t : TypeId} {l c r : AV} (h : evMakeSlice P A t l c = some (r, A')) : A.next ≤ A'.next := by
  unfold evMakeSlice at h
  repeat' (split at h)
  all_goals first
    | cases h; done
    | (rename_i hA; obtain ⟨_, rfl⟩ := Prod.mk.inj (Option.some.inj h); exact newA_next hA)
theorem moveA_next {A A' : AH} {b cap : Nat} {l : List AV} {e : TypeId} {sz : Nat} (h : moveA A b cap l e sz = some A') : A.next ≤ A'.next := by
  obtain ⟨_, _, _, _, _, _, rfl⟩ := moveA_eq h
  exact Nat.le_succ _
theorem evAppend_next {P : Program} {A A' : AH} {t : TypeId} {s x r : AV} (h : evAppend P A t s x = some (r, A')) : A.next ≤ A'.next := by
  unfold evAppend at h
  repeat' (split at h)
  all_goals first
    | cases h; done
    | (obtain ⟨_, rfl⟩ := Prod.mk.inj (Option.some.inj h); exact Nat.le_refl _)
    | (rename_i hA; obtain ⟨_, rfl⟩ := Prod.mk.inj (Option.some.inj h); first | exact newA_next hA | exact moveA_next hA | exact Nat.le_of_eq (store_next hA).symm)
theorem evStore_next {P : Program} {A A' : AH} {t : TypeId} {x y : AV} (h : evStore P A t x y = some A') : A.next ≤ A'.next := by
  unfold evStore at h
  repeat' (split at h)
  all_goals first
    | cases h; done
    | exact Nat.le_of_eq (store_next h).symm
theorem evMakeMap_next {A A' : AH} {o : Option Operand} {r : AV} (h : evMakeMap A o = some (r, A')) : A.next ≤ A'.next := by
  unfold evMakeMap at h
  repeat' (split at h)
  all_goals first
    | cases h; done
    | (rename_i hA; obtain ⟨_, rfl⟩ := Prod.mk.inj (Option.some.inj h); exact newO_next hA)
theorem evMakeChan_next {P : Program} {A A' : AH} {t : TypeId} {s r : AV} (h : evMakeChan P A t s = some (r, A')) : A.next ≤ A'.next := by
  unfold evMakeChan at h
  repeat' (split at h)
  all_goals first
    | cases h; done
    | (rename_i hA; obtain ⟨_, rfl⟩ := Prod.mk.inj (Option.some.inj h); exact newO_next hA)
theorem evRange_next {P : Program} {A A' : AH} {t : TypeId} {s r : AV} (h : evRange P A t s = some (r, A')) : A.next ≤ A'.next := by
  unfold evRange at h
  repeat' (split at h)
  all_goals first
    | cases h; done
    | (rename_i hA; obtain ⟨_, rfl⟩ := Prod.mk.inj (Option.some.inj h); exact newO_next hA)
theorem one_next {x : Option AV} {A A' : AH} {r : AV} (h : one x A = some (.val r A')) : A.next ≤ A'.next := by
  unfold one at h
  split at h
  · cases h; exact Nat.le_refl _
  · cases h
theorem two_next {x : Option (AV × AH)} {A A' : AH} {r : AV} (h : two x = some (.val r A')) (hx : ∀ r A', x = some (r, A') → A.next ≤ A'.next) : A.next ≤ A'.next := by
  unfold two at h
  split at h
  · cases h; exact hx _ _ rfl
  · cases h
theorem upd_next {x : Option AH} {A A' : AH} {r : AV} (h : upd x = some (.val r A')) (hx : ∀ A', x = some A' → A.next ≤ A'.next) : A.next ≤ A'.next := by
  unfold upd at h
  split at h
  · cases h; exact hx _ rfl
  · cases h
theorem evCall_next {C : Cfg} {g : Operand → AV} {A A' : AH} {c : Call} {r : AV} (h : evCall C g A c = some (.val r A')) : A.next ≤ A'.next := by
  unfold evCall at h
  split at h
  · unfold evFunc at h
    split at h <;> cases h
  · split at h
    · split at h
      · split at h
        · exact two_next h fun r A' e => evAppend_next e
        · cases h
      · cases h
    · split at h
      · split at h
        · cases h; exact Nat.le_refl _
        · cases h
      · cases h
    · split at h
      · exact one_next h
      · cases h
    · split at h
      · exact one_next h
      · cases h
    · cases h
  · cases h
theorem evOp_next {C : Cfg} {g : Operand → AV} {A A' : AH} {o : Oper} {r : AV} (h : evOp C g A o = some (.val r A')) : A.next ≤ A'.next := by
  unfold evOp at h
  cases hop : o.op <;> rw [hop] at h <;> dsimp only at h
  case move => cases h; exact Nat.le_refl _
  case assign => cases h; exact Nat.le_refl _
  case makeFunc => cases h; exact Nat.le_refl _
  case pick => exact one_next h
  case build => exact one_next h
  case load => exact one_next h
  case nilCheck => exact one_next h
  case binOp => exact one_next h
  case unOp => exact one_next h
  case convert => exact one_next h
  case makeInterface => exact one_next h
  case slice => exact one_next h
  case fieldAddr => exact one_next h
  case field => exact one_next h
  case indexAddr => exact one_next h
  case index => exact one_next h
  case lookup => exact one_next h
  case extract => exact one_next h
  case alloc => exact two_next h fun r A' e => evAlloc_next e
  case box => exact two_next h fun r A' e => evBox_next e
  case buildSlice => exact two_next h fun r A' e => evBuildSlice_next e
  case makeMap => exact two_next h fun r A' e => evMakeMap_next e
  case makeChan => exact two_next h fun r A' e => evMakeChan_next e
  case makeSlice => exact two_next h fun r A' e => evMakeSlice_next e
  case range => exact two_next h fun r A' e => evRange_next e
  case store => exact upd_next h fun A' e => evStore_next e
  case mapUpdate => exact upd_next h fun A' e => Nat.le_of_eq (evUpdate_next e).symm
  case insert => exact upd_next h fun A' e => Nat.le_of_eq (evUpdate_next e).symm
  case call => exact evCall_next h
  all_goals cases h
/-- A call never lets the counter fall. -/
def CallUp (call : CallFn) : Prop := ∀ f l A r A', call f l A = some (r, A') → A.next ≤ A'.next
theorem stepA_next {call : CallFn} (hu : CallUp call) {C : Cfg} {g : Operand → AV} {A A' : AH} {o : Oper} {r : AV} (h : stepA call C g A o = some (r, A')) : A.next ≤ A'.next := by
  unfold stepA at h
  split at h
  · rename_i he
    obtain ⟨rfl, rfl⟩ := Prod.mk.inj (Option.some.inj h)
    exact evOp_next he
  · exact hu _ _ _ _ _ h
  · cases h
theorem ops1_up {call : CallFn} (hu : CallUp call) {C : Cfg} {N : Nat} {all : List Oper} : ∀ (l : List Oper) (s s' : St), ops1 call C N all l s = some s' → s.A.next ≤ s'.A.next
  | [], s, s', h => by obtain rfl := Option.some.inj h; exact Nat.le_refl _
  | o :: l, s, s', h => by
    unfold ops1 at h
    split at h
    · split at h
      · rename_i hs
        split at h
        · exact Nat.le_trans (stepA_next hu hs) (ops1_up hu l _ _ h)
        · cases h
      · cases h
    · split at h
      · have e := ops1_up hu l _ _ h
        exact e
      · cases h
    · cases h
section
variable {C : Cfg} {ρ : Nat → Int} {W : World} {call : CallFn}
/-- ████ Operations in the text's order. ████ -/
theorem ops1_wp (hC : C.Ok ρ W) (hcall : CallOk C ρ W call) (hu : CallUp call) {N : Nat} {ops : Array Oper} {Q : Exit → Act → World → Prop} : ∀ (l : List Oper) (k : Nat) (s s' : St) (Γ : Gam) (a : Act) (w : World), ops.toList.drop k = l → ops1 call C N ops.toList l s = some s' → Fits C ρ W Γ → Is Γ N s a w → Free Γ s.A.next s'.A.next →
    (∀ a' w' Γ', Is Γ' N s' a' w' → Adv Γ s.A w Γ' s'.A w' → Q .normal a' w') → wpOps C.P ops Q (List.range' k l.length) a w
  | [], k, s, s', Γ, a, w, _, h, _, hi, _, hQ => by
    obtain rfl := Option.some.inj h
    exact hQ a w Γ hi (Adv.refl hi.A)
  | o :: l, k, s, s', Γ, a, w, hd, h, hfit, hi, hf, hQ => by
    have hk : ops[k]? = some o := by
      have : (ops.toList.drop k)[0]? = some o := by rw [hd]; rfl
      rw [List.getElem?_drop] at this
      simpa using this
    have hd' : ops.toList.drop (k + 1) = l := by
      have := congrArg List.tail hd
      simpa [List.tail_drop] using this
    rw [List.length_cons, List.range'_succ]
    unfold ops1 at h
    simp only [wpOps, hk]
    split at h
    · rename_i hg
      rw [if_pos (hi.guardB hg)]
      split at h
      · rename_i r A' hs
        split at h
        · rename_i T' hp
          left
          have hup := ops1_up hu l _ _ h
          have hsn := stepA_next hu hs
          refine stepA_wp hC hcall hfit hi.A (val_ok hfit.gl hi.T) hs (hf.left hup) fun v w' Γ' hadv hv => ?_
          obtain ⟨t1, t2⟩ := putU_ok (hi.T.mono hadv.le) hv hp
          exact ops1_wp hC hcall hu l (k + 1) _ s' Γ' _ w' hd' h (hfit.mono hadv.le) ⟨t1, hadv.hr, t2.trans hi.d⟩ (hf.right hadv) fun a' w'' Γ'' h1 h2 => hQ a' w'' Γ'' h1 (hadv.trans h2)
        · cases h
      · cases h
    · rename_i hg
      rw [if_neg (by rw [hi.guardB hg]; simp)]
      split at h
      · rename_i T' hp
        obtain ⟨t1, t2⟩ := putU_ok hi.T undef_VR hp
        exact ops1_wp hC hcall hu l (k + 1) _ s' Γ _ w hd' h hfit ⟨t1, hi.A, t2.trans hi.d⟩ hf hQ
      · cases h
    · cases h
end
end
end Go.Proofs.YtnikgcedifdaeaaGreatDoor.Ab
end

section
/- Operations in an order that the tape draws: if each leaves elder memory alone, and what hangs on one another is ordered, the order does not matter. Plain. -/
namespace Go.Proofs.YtnikgcedifdaeaaGreatDoor.Ab
open Go
noncomputable section
def tmpsOf : List Operand → List Nat
  | [] => []
  | x :: r => match x with
    | .tmp t => t :: tmpsOf r
    | _ => tmpsOf r
def guardTmp (all : List Oper) (o : Oper) : List Nat := match o.guard with
  | none => []
  | some (j, _) => match nth all j with
    | some p => match p.dst with
      | some d => [d]
      | none => []
    | none => []
def namesO (all : List Oper) (o : Oper) : List Nat := guardTmp all o ++ tmpsOf o.op.operands.toList
def memN (t : Nat) : List Nat → Bool
  | [] => false
  | x :: r => bif natIs x t then true else memN t r
theorem memN_iff {t : Nat} : ∀ {l : List Nat}, memN t l = true ↔ t ∈ l
  | [] => by simp [memN]
  | x :: r => by
    unfold memN
    cases h : natIs x t with
    | true => have := natIs_eq h; simp [this]
    | false => have := natIs_ne h; simp [memN_iff (l := r), Ne.symm this]
def valN (C : Cfg) (T : Tr AV) (ns : List Nat) (x : Operand) : AV := match x with
  | .tmp t => match memN t ns with
    | true => val C T (.tmp t)
    | false => .any
  | .const v => val C T (.const v)
  | .global g => val C T (.global g)
  | .func f => val C T (.func f)
theorem valN_ok {C : Cfg} {Γ : Gam} {T : Tr AV} {a : Act} {ns : List Nat} (hg : GL C Γ) (hT : ∀ t x, t ∈ ns → T.get t = some x → ∃ v, a.tmps[t]? = some v ∧ VR Γ x v) (x : Operand) : VR Γ (valN C T ns x) (a.eval x) := by
  cases x with
  | tmp t =>
    unfold valN
    dsimp only
    split
    · rename_i hm
      unfold val
      dsimp only
      split
      · rename_i b hb
        obtain ⟨v, h1, h2⟩ := hT t b (memN_iff.1 hm) hb
        have : a.eval (.tmp t) = v := by simp [Act.eval, Array.getD_eq_getD_getElem?, h1]
        rw [this]; exact h2
      · exact .any
    · exact .any
  | const v => exact val_ok (N := a.tmps.size) (T := .leaf) hg ⟨rfl, fun t a e => by simp [Tr.get_leaf] at e⟩ (.const v)
  | global g => exact val_ok (N := a.tmps.size) (T := .leaf) hg ⟨rfl, fun t a e => by simp [Tr.get_leaf] at e⟩ (.global g)
  | func f => exact val_ok (N := a.tmps.size) (T := .leaf) hg ⟨rfl, fun t a e => by simp [Tr.get_leaf] at e⟩ (.func f)
def opsD (call : CallFn) (C : Cfg) (N : Nat) (all : List Oper) : List Oper → St → Option St
  | [], s => some s
  | o :: r, s => match guardA all s.T o with
    | some true => match stepA call C (valN C s.T (namesO all o)) ⟨s.A.next, s.A.next, s.A.h⟩ o with
      | some (a, A') => match Nat.ble s.A.next A'.low with
        | true => match putT N s.T o.dst a with
          | some T' => opsD call C N all r ⟨T', ⟨A'.next, s.A.low, A'.h⟩⟩
          | none => none
        | false => none
      | none => none
    | some false => match putT N s.T o.dst (.tuple []) with
      | some T' => opsD call C N all r ⟨T', s.A⟩
      | none => none
    | none => none
def maskOf (acc : List Nat) : List Edge → Nat
  | [] => 0
  | e :: r => bif Region.binds .any e then (match nth acc e.on with
      | some m => Nat.lor (Nat.lor (2 ^ e.on) m) (maskOf acc r)
      | none => maskOf acc r) else maskOf acc r
def masks (acc : List Nat) : List Oper → List Nat
  | [] => acc
  | o :: r => masks (acc ++ [maskOf acc o.after.toList]) r
def edgesOk (j : Nat) : List Edge → Bool
  | [] => true
  | e :: r => bif Region.binds .any e then (bif Nat.blt e.on j then edgesOk j r else false) else edgesOk j r
def allIx {α : Type} (f : Nat → α → Bool) : Nat → List α → Bool
  | _, [] => true
  | k, a :: r => bif f k a then allIx f (k + 1) r else false
theorem allIx_at {α : Type} {f : Nat → α → Bool} : ∀ (l : List α) (k i : Nat) (a : α), allIx f k l = true → l[i]? = some a → f (k + i) a = true
  | [], k, i, a, _, h => by simp at h
  | x :: r, k, i, a, hf, h => by
    unfold allIx at hf
    cases h1 : f k x with
    | false => rw [h1] at hf; cases hf
    | true =>
      rw [h1] at hf
      cases i with
      | zero => simp at h; subst h; exact h1
      | succ i =>
        have := allIx_at r (k + 1) i a hf (by simpa using h)
        rwa [show k + (i + 1) = k + 1 + i by omega]
def dstIn (d : Option Nat) (l : List Nat) : Bool := match d with
  | none => false
  | some t => memN t l
def sameDst (a b : Option Nat) : Bool := match a, b with
  | some x, some y => natIs x y
  | _, _ => false
def pairOk (all : List Oper) (i : Nat) (oi oj : Oper) (mj : Nat) : Bool :=
  bif sameDst oi.dst oj.dst then false else (bif dstIn oi.dst (namesO all oj) then Nat.testBit mj i else (bif dstIn oj.dst (namesO all oi) then Nat.testBit mj i else true))
def drawOk (all : List Oper) : Bool :=
  allIx (fun j oj => bif edgesOk j oj.after.toList then (match nth (masks [] all) j with
    | some mj => allIx (fun i oi => bif Nat.blt i j then pairOk all i oi oj mj else true) 0 all
    | none => false) else false) 0 all
theorem edgesOk_lt : ∀ {l : List Edge} {j : Nat}, edgesOk j l = true → ∀ e ∈ l, Region.binds .any e = true → e.on < j
  | [], _, _, e, he, _ => by cases he
  | x :: r, j, h, e, he, hb => by
    unfold edgesOk at h
    cases hx : Region.binds .any x with
    | false =>
      rw [hx] at h
      rcases List.mem_cons.1 he with rfl | he
      · rw [hb] at hx; cases hx
      · exact edgesOk_lt h e he hb
    | true =>
      rw [hx] at h
      cases h1 : Nat.blt x.on j with
      | false => rw [h1] at h; cases h
      | true =>
        rw [h1] at h
        rcases List.mem_cons.1 he with rfl | he
        · exact Nat.le_of_ble_eq_true h1
        · exact edgesOk_lt h e he hb
theorem masks_len : ∀ (l : List Oper) (acc : List Nat), (masks acc l).length = acc.length + l.length
  | [], acc => by simp [masks]
  | o :: r, acc => by unfold masks; rw [masks_len r]; simp; omega
theorem masks_pre : ∀ (l : List Oper) (acc : List Nat) (i : Nat), i < acc.length → (masks acc l)[i]? = acc[i]?
  | [], acc, i, _ => rfl
  | o :: r, acc, i, h => by
    unfold masks
    rw [masks_pre r _ i (by simp; omega), List.getElem?_append_left h]
theorem masks_at : ∀ (l : List Oper) (acc : List Nat) (i : Nat) (o : Oper), l[i]? = some o → (masks acc l)[acc.length + i]? = some (maskOf ((masks acc l).take (acc.length + i)) o.after.toList)
  | [], acc, i, o, h => by simp at h
  | x :: r, acc, i, o, h => by
    cases i with
    | zero =>
      simp at h
      subst h
      unfold masks
      rw [Nat.add_zero, masks_pre r _ _ (by simp), List.getElem?_append_right (Nat.le_refl _)]
      simp only [Nat.sub_self, List.getElem?_cons_zero, Option.some.injEq]
      congr 1
      apply List.ext_getElem?
      intro j
      rw [List.getElem?_take]
      split
      · rename_i hj
        rw [masks_pre r _ j (by simp; omega), List.getElem?_append_left hj]
      · rename_i hj
        rw [List.getElem?_eq_none (by omega)]
    | succ i =>
      unfold masks
      have := masks_at r (acc ++ [maskOf acc x.after.toList]) i o (by simpa using h)
      simpa [Nat.add_assoc, Nat.add_comm 1 i] using this
theorem maskOf_bit {acc : List Nat} {j : Nat} : ∀ {l : List Edge}, (maskOf acc l).testBit j = true → ∃ e ∈ l, Region.binds .any e = true ∧ ∃ m, acc[e.on]? = some m ∧ (j = e.on ∨ m.testBit j = true)
  | [], h => by simp [maskOf] at h
  | e :: r, h => by
    unfold maskOf at h
    have rc : (maskOf acc r).testBit j = true → ∃ e' ∈ e :: r, Region.binds .any e' = true ∧ ∃ m, acc[e'.on]? = some m ∧ (j = e'.on ∨ m.testBit j = true) := fun h => by
      obtain ⟨e', h1, h2⟩ := maskOf_bit h
      exact ⟨e', List.mem_cons_of_mem _ h1, h2⟩
    cases hb : Region.binds .any e with
    | false => rw [hb] at h; exact rc h
    | true =>
      rw [hb] at h
      simp only [cond_true] at h
      split at h
      · rename_i m hm
        rw [nth_eq] at hm
        have h' : (2 ^ e.on ||| m ||| maskOf acc r).testBit j = true := h
        rw [Nat.testBit_or, Nat.testBit_or, Bool.or_eq_true, Bool.or_eq_true] at h'
        rcases h' with (h' | h') | h'
        · rw [Nat.testBit_two_pow] at h'
          exact ⟨e, List.mem_cons_self, hb, m, hm, .inl (of_decide_eq_true h').symm⟩
        · exact ⟨e, List.mem_cons_self, hb, m, hm, .inr h'⟩
        · exact rc h'
      · exact rc h
/-- What is listed, its forerunners are, too. -/
def Closed (all : List Oper) (L : Nat → Prop) : Prop := ∀ i o, all[i]? = some o → L i → ∀ e ∈ o.after.toList, Region.binds .any e = true → L e.on
theorem mask_listed {all : List Oper} {L : Nat → Prop} (hc : Closed all L) : ∀ (i : Nat) (o : Oper) (m j : Nat), all[i]? = some o → (masks [] all)[i]? = some m → m.testBit j = true → (∀ e ∈ o.after.toList, Region.binds .any e = true → L e.on) → L j := by
  intro i
  induction i using Nat.strongRecOn with
  | _ i ih =>
    intro o m j ho hm hb hl
    have := masks_at all [] i o ho
    simp only [List.length_nil, Nat.zero_add] at this
    rw [this] at hm
    obtain rfl := Option.some.inj hm
    obtain ⟨e, he, hbe, m', hm', hj⟩ := maskOf_bit hb
    rcases hj with rfl | hj
    · exact hl e he hbe
    · rw [List.getElem?_take] at hm'
      split at hm'
      · rename_i hlt
        have hlen : e.on < all.length := by have := (List.getElem?_eq_some_iff.1 ho).1; omega
        obtain ⟨o', ho'⟩ : ∃ o', all[e.on]? = some o' := ⟨_, List.getElem?_eq_getElem hlen⟩
        exact ih e.on hlt o' m' j ho' hm' hj (hc e.on o' ho' (hl e he hbe))
      · cases hm'
structure DrawFacts (all : List Oper) : Prop where
  edges : ∀ (i : Nat) (o : Oper), all[i]? = some o → ∀ e ∈ o.after.toList, Region.binds .any e = true → e.on < i
  one : ∀ (i j : Nat) (oi oj : Oper) (d : Nat), i < j → all[i]? = some oi → all[j]? = some oj → oi.dst = some d → oj.dst ≠ some d
  ord : ∀ (i j : Nat) (oi oj : Oper) (d : Nat), i < j → all[i]? = some oi → all[j]? = some oj → (oi.dst = some d ∧ d ∈ namesO all oj) ∨ (oj.dst = some d ∧ d ∈ namesO all oi) → ∃ m : Nat, (masks [] all)[j]? = some m ∧ m.testBit i = true
theorem drawOk_facts {all : List Oper} (h : drawOk all = true) : DrawFacts all := by
  have base : ∀ (j : Nat) (oj : Oper), all[j]? = some oj → edgesOk j oj.after.toList = true ∧ ∃ m, (masks [] all)[j]? = some m ∧ ∀ (i : Nat) (oi : Oper), i < j → all[i]? = some oi → pairOk all i oi oj m = true := by
    intro j oj hj
    have := allIx_at all 0 j oj h hj
    rw [Nat.zero_add] at this
    cases he : edgesOk j oj.after.toList with
    | false => rw [he] at this; cases this
    | true =>
      rw [he] at this
      simp only [cond_true] at this
      split at this
      · rename_i m hm
        rw [nth_eq] at hm
        refine ⟨rfl, m, hm, fun i oi hlt hi => ?_⟩
        have := allIx_at all 0 i oi this hi
        rw [Nat.zero_add] at this
        have hb : Nat.blt i j = true := Nat.ble_eq_true_of_le hlt
        rw [hb] at this
        exact this
      · cases this
  refine ⟨fun i o hi => edgesOk_lt (base i o hi).1, fun i j oi oj d hlt hi hj hd hd' => ?_, fun i j oi oj d hlt hi hj hx => ?_⟩
  · obtain ⟨_, m, _, hp⟩ := base j oj hj
    have := hp i oi hlt hi
    unfold pairOk at this
    have hs : sameDst oi.dst oj.dst = true := by rw [hd, hd']; simp [sameDst, natIs]
    rw [hs] at this
    cases this
  · obtain ⟨_, m, hm, hp⟩ := base j oj hj
    have := hp i oi hlt hi
    unfold pairOk at this
    refine ⟨m, hm, ?_⟩
    cases hs : sameDst oi.dst oj.dst with
    | true => rw [hs] at this; cases this
    | false =>
      rw [hs] at this
      simp only [cond_false] at this
      cases h1 : dstIn oi.dst (namesO all oj) with
      | true => rw [h1] at this; exact this
      | false =>
        rw [h1] at this
        simp only [cond_false] at this
        rcases hx with ⟨hd, hn⟩ | ⟨hd, hn⟩
        · rw [hd] at h1; simp only [dstIn] at h1; rw [memN_iff.2 hn] at h1; cases h1
        · have h2 : dstIn oj.dst (namesO all oi) = true := by rw [hd]; exact memN_iff.2 hn
          rw [h2] at this
          exact this
end
end Go.Proofs.YtnikgcedifdaeaaGreatDoor.Ab
end

section
/- A region in a drawn order. Plain. -/
namespace Go.Proofs.YtnikgcedifdaeaaGreatDoor.Ab
open Go
noncomputable section
theorem HR.low {Γ : Gam} {A : AH} {w : World} (h : HR Γ A w) (l : Nat) : HR Γ ⟨A.next, l, A.h⟩ w := ⟨h.at_, h.lt, h.inj, h.own, h.old, h.size, h.tape, h.os, h.output, h.drawn, h.wf⟩
/-- One step of the text's order. -/
def StepD (call : CallFn) (C : Cfg) (N : Nat) (all : List Oper) (s : St) (o : Oper) (a : AV) (s' : St) : Prop :=
  ∃ T', putT N s.T o.dst a = some T' ∧
    ((guardA all s.T o = some true ∧ ∃ A', stepA call C (valN C s.T (namesO all o)) ⟨s.A.next, s.A.next, s.A.h⟩ o = some (a, A') ∧ s.A.next ≤ A'.low ∧ s' = ⟨T', ⟨A'.next, s.A.low, A'.h⟩⟩) ∨ (guardA all s.T o = some false ∧ a = .tuple [] ∧ s' = ⟨T', s.A⟩))
theorem opsD_chain {call : CallFn} {C : Cfg} {N : Nat} {all : List Oper} : ∀ (l : List Oper) (k : Nat) (s s' : St), all.drop k = l → opsD call C N all l s = some s' → ∃ (S : Nat → St) (R : Nat → AV), S k = s ∧ S (k + l.length) = s' ∧ ∀ i o, k ≤ i → all[i]? = some o → StepD call C N all (S i) o (R i) (S (i + 1))
  | [], k, s, s', hd, h => by
    obtain rfl := Option.some.inj h
    refine ⟨fun _ => s, fun _ => .any, rfl, rfl, fun i o hi ho => ?_⟩
    have : all.length ≤ k := by simpa using List.drop_eq_nil_iff.1 hd
    have := (List.getElem?_eq_some_iff.1 ho).1
    omega
  | o :: l, k, s, s', hd, h => by
    have hk : all[k]? = some o := by
      have : (all.drop k)[0]? = some o := by rw [hd]; rfl
      rw [List.getElem?_drop] at this
      simpa using this
    have hd' : all.drop (k + 1) = l := by
      have := congrArg List.tail hd
      simpa [List.tail_drop] using this
    have glue : ∀ (a : AV) (s1 : St), StepD call C N all s o a s1 → opsD call C N all l s1 = some s' → ∃ (S : Nat → St) (R : Nat → AV), S k = s ∧ S (k + (o :: l).length) = s' ∧ ∀ i o, k ≤ i → all[i]? = some o → StepD call C N all (S i) o (R i) (S (i + 1)) := by
      intro a s1 hs hr
      obtain ⟨S, R, h1, h2, h3⟩ := opsD_chain l (k + 1) s1 s' hd' hr
      refine ⟨fun i => if i = k then s else S i, fun i => if i = k then a else R i, by simp, ?_, fun i o' hi ho => ?_⟩
      · simp only [List.length_cons]
        rw [if_neg (by omega), ← h2]
        congr 1
        omega
      · by_cases e : i = k
        · subst e
          rw [hk] at ho
          obtain rfl := Option.some.inj ho
          simp only [if_true]
          rw [if_neg (by omega), h1]
          exact hs
        · show StepD call C N all (if i = k then s else S i) o' (if i = k then a else R i) (if i + 1 = k then s else S (i + 1))
          rw [if_neg e, if_neg e, if_neg (by omega)]
          exact h3 i o' (by omega) ho
    unfold opsD at h
    split at h
    · rename_i hg
      split at h
      · rename_i a A' hs
        split at h
        · rename_i hl
          split at h
          · rename_i T' hp
            exact glue a _ ⟨T', hp, .inl ⟨hg, A', hs, Nat.le_of_ble_eq_true hl, rfl⟩⟩ h
          · cases h
        · cases h
      · cases h
    · rename_i hg
      split at h
      · rename_i T' hp
        exact glue (.tuple []) _ ⟨T', hp, .inr ⟨hg, rfl, rfl⟩⟩ h
      · cases h
    · cases h
theorem opsD_up {call : CallFn} (hu : CallUp call) {C : Cfg} {N : Nat} {all : List Oper} : ∀ (l : List Oper) (s s' : St), opsD call C N all l s = some s' → s.A.next ≤ s'.A.next ∧ s'.A.low = s.A.low
  | [], s, s', h => by obtain rfl := Option.some.inj h; exact ⟨Nat.le_refl _, rfl⟩
  | o :: l, s, s', h => by
    unfold opsD at h
    split at h
    · split at h
      · rename_i hs
        split at h
        · split at h
          · have e := opsD_up hu l _ _ h
            have e2 := stepA_next hu hs
            exact ⟨Nat.le_trans e2 e.1, e.2⟩
          · cases h
        · cases h
      · cases h
    · split at h
      · have e := opsD_up hu l _ _ h
        exact e
      · cases h
    · cases h
section
variable {C : Cfg} {ρ : Nat → Int} {W : World} {call : CallFn} {N : Nat} {all : List Oper} {S : Nat → St} {R : Nat → AV}
/-- Where a temporary's value is from. -/
theorem tmp_from (hS : ∀ i o, 0 ≤ i → all[i]? = some o → StepD call C N all (S i) o (R i) (S (i + 1))) (t : Nat) (x : AV) : ∀ k, k ≤ all.length → (S k).T.get t = some x →
    (∃ j o, j < k ∧ all[j]? = some o ∧ o.dst = some t ∧ x = R j) ∨ ((∀ j o, j < k → all[j]? = some o → o.dst ≠ some t) ∧ (S 0).T.get t = some x)
  | 0, _, h => .inr ⟨fun j o hj => by omega, h⟩
  | k + 1, hk, h => by
    obtain ⟨o, ho⟩ : ∃ o, all[k]? = some o := ⟨_, List.getElem?_eq_getElem (by omega)⟩
    obtain ⟨T', hp, hcase⟩ := hS k o (Nat.zero_le _) ho
    have hT : (S (k + 1)).T = T' := by rcases hcase with ⟨_, A', _, _, e⟩ | ⟨_, _, e⟩ <;> rw [e]
    rw [hT] at h
    have back : (o.dst = some t ∧ x = R k) ∨ (o.dst ≠ some t ∧ (S k).T.get t = some x) := by
      unfold putT at hp
      split at hp
      · rename_i hd
        obtain rfl := Option.some.inj hp
        exact .inr ⟨by rw [hd]; simp, h⟩
      · rename_i d hd
        split at hp
        · obtain rfl := Option.some.inj hp
          rcases Tr.get_set 12 _ d t h with ⟨rfl, rfl⟩ | ⟨hne, h⟩
          · exact .inl ⟨hd, rfl⟩
          · exact .inr ⟨by rw [hd]; simp; omega, h⟩
        · cases hp
    rcases back with ⟨hd, rfl⟩ | ⟨hd, h⟩
    · exact .inl ⟨k, o, Nat.lt_succ_self _, ho, hd, rfl⟩
    · rcases tmp_from hS t x k (by omega) h with ⟨j, o', h1, h2⟩ | ⟨h1, h2⟩
      · exact .inl ⟨j, o', by omega, h2⟩
      · refine .inr ⟨fun j o' hj ho' => ?_, h2⟩
        rcases Nat.lt_or_ge j k with hj' | hj'
        · exact h1 j o' hj' ho'
        · obtain rfl : j = k := by omega
          rw [ho] at ho'
          obtain rfl := Option.some.inj ho'
          exact hd
/-- What the text's order teaches of the states on the way. -/
structure Way (all : List Oper) (S : Nat → St) : Prop where
  wf : ∀ k, k ≤ all.length → ∀ b o, (S k).A.h.get b = some o → b < (S k).A.next
  up : ∀ k, k < all.length → (S k).A.next ≤ (S (k + 1)).A.next
  same : ∀ k, k < all.length → ∀ b, b < (S k).A.next → (S (k + 1)).A.h.get b = (S k).A.h.get b
theorem Way.up' (h : Way all S) : ∀ k d, k + d ≤ all.length → (S k).A.next ≤ (S (k + d)).A.next
  | k, 0, _ => Nat.le_refl _
  | k, d + 1, hd => Nat.le_trans (h.up' k d (by omega)) (h.up (k + d) (by omega))
theorem Way.same' (h : Way all S) : ∀ k d, k + d ≤ all.length → ∀ b, b < (S k).A.next → (S (k + d)).A.h.get b = (S k).A.h.get b
  | k, 0, _, b, _ => rfl
  | k, d + 1, hd, b, hb => (h.same (k + d) (by omega) b (Nat.lt_of_lt_of_le hb (h.up' k d (by omega)))).trans (h.same' k d (by omega) b hb)
theorem way_of (hC : C.Ok ρ W) (hcall : CallOk C ρ W call) (hu : CallUp call) (hS : ∀ i o, 0 ≤ i → all[i]? = some o → StepD call C N all (S i) o (R i) (S (i + 1))) {Γ : Gam} {a : Act} {w : World} (hfit : Fits C ρ W Γ) (hi : Is Γ N (S 0) a w) (hf : Free Γ (S 0).A.next (S all.length).A.next) : Way all S := by
  have up : ∀ k, k < all.length → (S k).A.next ≤ (S (k + 1)).A.next := by
    intro k hk
    obtain ⟨o, ho⟩ : ∃ o, all[k]? = some o := ⟨_, List.getElem?_eq_getElem hk⟩
    obtain ⟨T', hp, hcase⟩ := hS k o (Nat.zero_le _) ho
    rcases hcase with ⟨_, A', hs, _, e⟩ | ⟨_, _, e⟩
    · rw [e]; have h := stepA_next hu hs; exact h
    · rw [e]; exact Nat.le_refl _
  have up' : ∀ d k, k + d ≤ all.length → (S k).A.next ≤ (S (k + d)).A.next := by
    intro d
    induction d with
    | zero => intro k _; exact Nat.le_refl _
    | succ d ih => intro k hd; exact Nat.le_trans (ih k (by omega)) (up (k + d) (by omega))
  have main : ∀ k, k ≤ all.length → (∃ Γ' a' w', Fits C ρ W Γ' ∧ Is Γ' N (S k) a' w' ∧ Free Γ' (S k).A.next (S all.length).A.next) ∧ ∀ j, j < k → ∀ b, b < (S j).A.next → (S (j + 1)).A.h.get b = (S j).A.h.get b := by
    intro k
    induction k with
    | zero => intro _; exact ⟨⟨Γ, a, w, hfit, hi, hf⟩, fun j hj => by omega⟩
    | succ k ih =>
      intro hk
      obtain ⟨⟨Γ', a', w', f1, i1, r1⟩, hsame⟩ := ih (by omega)
      obtain ⟨o, ho⟩ : ∃ o, all[k]? = some o := ⟨_, List.getElem?_eq_getElem (by omega)⟩
      obtain ⟨T', hp, hcase⟩ := hS k o (Nat.zero_le _) ho
      have hle := up' (all.length - (k + 1)) (k + 1) (by omega)
      rw [show k + 1 + (all.length - (k + 1)) = all.length by omega] at hle
      rcases hcase with ⟨hg, A', hs, hlow, e⟩ | ⟨hg, ha, e⟩
      · have hnx : A'.next = (S (k + 1)).A.next := by rw [e]
        obtain ⟨v, w'', Γ'', hadv, hv⟩ := stepA_ex (σ := a'.eval) hC hcall f1 (i1.A.low (S k).A.next) (valN_ok f1.gl fun t x _ hx => i1.T.at_ t x hx) hs (Free.left r1 (by rw [hnx]; exact hle))
        obtain ⟨t1, t2⟩ := putT_ok (i1.T.mono hadv.le) hv hp
        refine ⟨⟨Γ'', a'.put o.dst v, w'', f1.mono hadv.le, by rw [e]; exact ⟨t1, hadv.hr.low _, t2.trans i1.d⟩, ?_⟩, fun j hj b hb => ?_⟩
        · rw [e]; have h := Free.right (A := ⟨(S k).A.next, (S k).A.next, (S k).A.h⟩) r1 hadv; exact h
        · rcases Nat.lt_or_ge j k with hj' | hj'
          · exact hsame j hj' b hb
          · obtain rfl : j = k := by omega
            rw [e]
            exact hadv.low b (Nat.lt_of_lt_of_le hb hlow) hb
      · obtain ⟨t1, t2⟩ := putT_ok i1.T (undef_VR) (ha ▸ hp)
        refine ⟨⟨Γ', a'.put o.dst undef, w', f1, by rw [e]; exact ⟨t1, i1.A, t2.trans i1.d⟩, by rw [e]; exact r1⟩, fun j hj b hb => ?_⟩
        rcases Nat.lt_or_ge j k with hj' | hj'
        · exact hsame j hj' b hb
        · obtain rfl : j = k := by omega
          rw [e]
  refine ⟨fun k hk => ?_, up, fun k hk => (main (k + 1) (by omega)).2 k (Nat.lt_succ_self _)⟩
  obtain ⟨_, _, _, _, i1, _⟩ := (main k hk).1
  exact i1.A.wf
end
end
end Go.Proofs.YtnikgcedifdaeaaGreatDoor.Ab
end

section
/- A region in a drawn order: the theorem. Plain. -/
namespace Go.Proofs.YtnikgcedifdaeaaGreatDoor.Ab
open Go
noncomputable section
def unl (L : Nat → Prop) [DecidablePred L] : Nat → Nat
  | 0 => 0
  | n + 1 => unl L n + (if L n then 0 else 1)
theorem unl_set {L L' : Nat → Prop} [DecidablePred L] [DecidablePred L'] {i : Nat} (hi : ¬ L i) (hL : ∀ j, L' j ↔ (j = i ∨ L j)) : ∀ n, (i < n → unl L' n + 1 = unl L n) ∧ (n ≤ i → unl L' n = unl L n)
  | 0 => ⟨fun h => by omega, fun _ => rfl⟩
  | n + 1 => by
    obtain ⟨h1, h2⟩ := unl_set hi hL n
    unfold unl
    refine ⟨fun h => ?_, fun h => ?_⟩
    · by_cases e : i = n
      · subst e
        rw [h2 (Nat.le_refl _), if_pos ((hL i).2 (.inl rfl)), if_neg hi]
      · have := h1 (by omega)
        by_cases hn : L n
        · rw [if_pos ((hL n).2 (.inr hn)), if_pos hn]; omega
        · have : ¬ L' n := fun x => ((hL n).1 x).elim (fun y => e y.symm) hn
          rw [if_neg this, if_neg hn]; omega
    · have := h2 (by omega)
      by_cases hn : L n
      · rw [if_pos ((hL n).2 (.inr hn)), if_pos hn]; omega
      · have : ¬ L' n := fun x => ((hL n).1 x).elim (fun y => by omega) hn
        rw [if_neg this, if_neg hn]; omega
theorem unl_zero {L : Nat → Prop} [DecidablePred L] : ∀ n, unl L n = 0 → ∀ i, i < n → L i
  | 0, _, i, hi => by omega
  | n + 1, h, i, hi => by
    unfold unl at h
    by_cases hn : L n
    · rw [if_pos hn] at h
      rcases Nat.lt_or_ge i n with h' | h'
      · exact unl_zero n (by omega) i h'
      · obtain rfl : i = n := by omega
        exact hn
    · rw [if_neg hn] at h; omega
theorem unl_le {L : Nat → Prop} [DecidablePred L] : ∀ n, unl L n ≤ n
  | 0 => Nat.le_refl _
  | n + 1 => by unfold unl; have := unl_le (L := L) n; split <;> omega
def Lst (listed : Array Bool) (i : Nat) : Prop := listed[i]? = some true
instance (listed : Array Bool) : DecidablePred (Lst listed) := fun i => by unfold Lst; infer_instance
section
variable {C : Cfg} {ρ : Nat → Int} {W : World} {call : CallFn} {N : Nat} {ops : Array Oper} {S : Nat → St} {R : Nat → AV}
structure InvD (C : Cfg) (ρ : Nat → Int) (W : World) (N : Nat) (all : List Oper) (S : Nat → St) (R : Nat → AV) (Γ0 : Gam) (w0 : World) (listed : Array Bool) (a : Act) (w : World) (Γ : Gam) : Prop where
  fit : Fits C ρ W Γ
  size : listed.size = all.length
  closed : Closed all (Lst listed)
  adv : Adv Γ0 (S 0).A w0 Γ (S all.length).A w
  fresh : ∀ i, i < all.length → ¬ Lst listed i → ∀ b, (S i).A.next ≤ b → b < (S (i + 1)).A.next → Γ.β b = none
  tm : a.tmps.size = N
  t1 : ∀ i o d, Lst listed i → all[i]? = some o → o.dst = some d → ∃ v, a.tmps[d]? = some v ∧ VR Γ (R i) v
  t0 : ∀ t x, (S 0).T.get t = some x → (∀ i o, all[i]? = some o → o.dst = some t → ¬ Lst listed i) → ∃ v, a.tmps[t]? = some v ∧ VR Γ x v
  d : a.defers = []
/-- The step of the one that comes next. -/
theorem InvD.step {all : List Oper} (hw : Way all S) (hlow : (S all.length).A.low = (S 0).A.low) {Γ0 Γ Γ' : Gam} {w0 w w' : World} {listed : Array Bool} {a : Act} {i : Nat} {o : Oper} {A' : AH} {r : AV} {v : Value} (hI : InvD C ρ W N all S R Γ0 w0 listed a w Γ) (ho : all[i]? = some o) (hu : ¬ Lst listed i)
    (hedge : ∀ e ∈ o.after.toList, Region.binds .any e = true → Lst listed e.on) (hF : DrawFacts all) (hA : A'.next = (S (i + 1)).A.next) (hAh : A'.h = (S (i + 1)).A.h) (hadv : Adv Γ ⟨(S i).A.next, (S i).A.next, (S i).A.h⟩ w Γ' A' w') (hv : VR Γ' r v) (hR : R i = r) (hd : ∀ d, o.dst = some d → d < N) :
    InvD C ρ W N all S R Γ0 w0 (listed.setIfInBounds i true) (a.put o.dst v) w' Γ' := by
  have hi : i < all.length := (List.getElem?_eq_some_iff.1 ho).1
  have hLs : ∀ j, Lst (listed.setIfInBounds i true) j ↔ (j = i ∨ Lst listed j) := by
    intro j
    unfold Lst
    rw [Array.getElem?_setIfInBounds]
    by_cases e : i = j
    · subst e; simp [hI.size, hi]
    · rw [if_neg e]
      constructor
      · exact .inr
      · rintro (h | h)
        · exact absurd h.symm e
        · exact h
  have le1 : ∀ k, k ≤ all.length → (S k).A.next ≤ (S all.length).A.next := fun k hk => by
    have := hw.up' k (all.length - k) (by omega)
    rwa [show k + (all.length - k) = all.length by omega] at this
  have same1 : ∀ k, k ≤ all.length → ∀ b, b < (S k).A.next → (S all.length).A.h.get b = (S k).A.h.get b := fun k hk b hb => by
    have := hw.same' k (all.length - k) (by omega) b hb
    rwa [show k + (all.length - k) = all.length by omega] at this
  have le0 : ∀ k, k ≤ all.length → (S 0).A.next ≤ (S k).A.next := fun k hk => by
    have := hw.up' 0 k (by omega)
    rwa [Nat.zero_add] at this
  have dom : ∀ b x, Γ'.β b = some x → Γ.β b = some x ∨ ((S i).A.next ≤ b ∧ b < (S (i + 1)).A.next) := fun b x h => by
    rcases hadv.dom b x h with h | h
    · exact .inl h
    · exact .inr (by rw [← hA]; exact h)
  have ownI : ∀ c, Owned Γ ⟨(S i).A.next, (S i).A.next, (S i).A.h⟩ c → Owned Γ (S all.length).A c := by
    rintro c ⟨b, s, x, h1, h2, h3⟩
    exact ⟨b, s, x, h1, by rw [same1 i (by omega) b (hw.wf i (by omega) b x h2)]; exact h2, h3⟩
  have ownInv : ∀ c b s x, Γ.β b = some (c, s) → (S all.length).A.h.get b = some x → x.live = true → (S i).A.next ≤ b → ¬ Owned Γ ⟨(S i).A.next, (S i).A.next, (S i).A.h⟩ c := by
    rintro c b s x h1 h2 h3 h4 ⟨b1, s1, x1, g1, g2, g3⟩
    have hb1 := hw.wf i (by omega) b1 x1 g2
    have := hI.adv.hr.inj b1 b c s1 s x1 x g1 h1 (by rw [same1 i (by omega) b1 hb1]; exact g2) h2 g3 h3
    omega
  have rwl : ∀ x : AO, x.rw = true → x.live = true := by intro x; cases x <;> simp [AO.rw, AO.live]
  have hr' : HR Γ' (S all.length).A w' := by
    refine ⟨fun b c s x h1 h2 => ?_, hadv.hr.lt, fun b b' c s s' x x' h1 h2 h3 h4 h5 h6 => ?_, fun b c s x h1 h2 h3 => ?_, hadv.hr.old, hadv.hr.size, hadv.hr.tape, hadv.hr.os, hadv.hr.output, hadv.hr.drawn, hw.wf _ (Nat.le_refl _)⟩
    · rcases Nat.lt_or_ge b (S (i + 1)).A.next with hb | hb
      · rw [same1 (i + 1) (by omega) b hb, ← hAh] at h2
        exact hadv.hr.at_ b c s x h1 h2
      · rcases dom b _ h1 with h1' | h1'
        · cases hl : x.live with
          | false => cases x <;> first | trivial | cases hl
          | true =>
            have hno := ownInv c b s x h1' h2 hl (Nat.le_trans (hw.up i hi) hb)
            have hk := hadv.keep c (hI.adv.hr.lt b c s h1') hno
            rw [hk]
            exact (hI.adv.hr.at_ b c s x h1' h2).mono hadv.le
        · omega
    · rcases Nat.lt_or_ge b (S (i + 1)).A.next with hb | hb <;> rcases Nat.lt_or_ge b' (S (i + 1)).A.next with hb' | hb'
      · rw [same1 (i + 1) (by omega) b hb, ← hAh] at h3
        rw [same1 (i + 1) (by omega) b' hb', ← hAh] at h4
        exact hadv.hr.inj b b' c s s' x x' h1 h2 h3 h4 h5 h6
      · rcases dom b' _ h2 with h2' | h2'
        · cases hb0 : Γ.β b with
          | some y =>
            have := hadv.le.β b y hb0
            rw [h1] at this
            obtain rfl := Option.some.inj this
            exact hI.adv.hr.inj b b' c s s' x x' hb0 h2' h3 h4 h5 h6
          | none =>
            exfalso
            rcases hadv.fresh b c s h1 hb0 with h | h
            · have := hI.adv.hr.lt b' c s' h2'; omega
            · exact ownInv c b' s' x' h2' h4 h6 (Nat.le_trans (hw.up i hi) hb') h
        · omega
      · rcases dom b _ h1 with h1' | h1'
        · cases hb0 : Γ.β b' with
          | some y =>
            have := hadv.le.β b' y hb0
            rw [h2] at this
            obtain rfl := Option.some.inj this
            exact hI.adv.hr.inj b b' c s s' x x' h1' hb0 h3 h4 h5 h6
          | none =>
            exfalso
            rcases hadv.fresh b' c s' h2 hb0 with h | h
            · have := hI.adv.hr.lt b c s h1'; omega
            · exact ownInv c b s x h1' h3 (rwl x h5) (Nat.le_trans (hw.up i hi) hb) h
        · omega
      · rcases dom b _ h1 with h1' | h1'
        · rcases dom b' _ h2 with h2' | h2'
          · exact hI.adv.hr.inj b b' c s s' x x' h1' h2' h3 h4 h5 h6
          · omega
        · omega
    · rcases Nat.lt_or_ge b (S (i + 1)).A.next with hb | hb
      · rw [same1 (i + 1) (by omega) b hb, ← hAh] at h2
        exact hadv.hr.own b c s x h1 h2 h3
      · rcases dom b _ h1 with h1' | h1'
        · have := hI.adv.hr.own b c s x h1' h2 h3
          rw [hadv.le.W]; exact this
        · omega
  have hsz : (a.put o.dst v).tmps.size = N := by
    rw [← hI.tm]
    unfold Act.put
    split <;> simp
  have hput : ∀ t, o.dst ≠ some t → (a.put o.dst v).tmps[t]? = a.tmps[t]? := by
    intro t ht
    unfold Act.put
    split
    · rename_i d hd'
      rw [hd'] at ht
      exact Array.getElem?_setIfInBounds_ne (fun e => ht (by rw [e]))
    · rfl
  refine ⟨hI.fit.mono hadv.le, by simp [hI.size], fun j oj hj hl e he hb => ?_, ?_, fun j hj hl b h1 h2 => ?_, hsz, fun j oj d hl hj hdj => ?_, fun t x hx hno => ?_, ?_⟩
  · rcases (hLs j).1 hl with rfl | hl
    · rw [ho] at hj
      obtain rfl := Option.some.inj hj
      exact (hLs _).2 (.inr (hedge e he hb))
    · exact (hLs _).2 (.inr (hI.closed j oj hj hl e he hb))
  · refine ⟨hI.adv.le.trans hadv.le, fun b x hb => ?_, hI.adv.next, hr', fun c hc hno => ?_, fun c hc ho' => ?_, Nat.le_trans hI.adv.size hadv.size, Nat.le_of_eq hlow, fun b _ hb => by
        have := same1 0 (by omega) b hb; exact this, fun b c s h1 h2 => ?_⟩
    · rcases dom b x hb with h | h
      · exact hI.adv.dom b x h
      · exact .inr ⟨Nat.le_trans (le0 i (by omega)) h.1, Nat.lt_of_lt_of_le h.2 (le1 (i + 1) (by omega))⟩
    · rw [hadv.keep c (Nat.lt_of_lt_of_le hc hI.adv.size) (fun h => hno (hI.adv.own c hc (ownI c h)))]
      exact hI.adv.keep c hc hno
    · obtain ⟨b, s, x, h1, h2, h3⟩ := ho'
      rcases Nat.lt_or_ge b (S (i + 1)).A.next with hb | hb
      · rw [same1 (i + 1) (by omega) b hb, ← hAh] at h2
        exact hI.adv.own c hc (ownI c (hadv.own c (Nat.lt_of_lt_of_le hc hI.adv.size) ⟨b, s, x, h1, h2, h3⟩))
      · rcases dom b _ h1 with h1' | h1'
        · exact hI.adv.own c hc ⟨b, s, x, h1', h2, h3⟩
        · omega
    · cases hb : Γ.β b with
      | some y =>
        have := hadv.le.β b y hb
        rw [h1] at this
        obtain rfl := Option.some.inj this
        exact hI.adv.fresh b c s hb h2
      | none =>
        rcases hadv.fresh b c s h1 hb with h | h
        · exact .inl (Nat.le_trans hI.adv.size h)
        · rcases Nat.lt_or_ge c w0.heap.size with hc | hc
          · exact .inr (hI.adv.own c hc (ownI c h))
          · exact .inl hc
  · have hne : j ≠ i := fun e => hl ((hLs j).2 (.inl e))
    have hl' : ¬ Lst listed j := fun e => hl ((hLs j).2 (.inr e))
    cases hb : Γ'.β b with
    | none => rfl
    | some x =>
      rcases dom b x hb with h | h
      · rw [hI.fresh j hj hl' b h1 h2] at h; cases h
      · rcases Nat.lt_or_ge j i with hji | hji
        · have := hw.up' (j + 1) (i - (j + 1)) (by omega)
          rw [show j + 1 + (i - (j + 1)) = i by omega] at this
          omega
        · have := hw.up' (i + 1) (j - (i + 1)) (by omega)
          rw [show i + 1 + (j - (i + 1)) = j by omega] at this
          omega
  · rcases (hLs j).1 hl with rfl | hl
    · rw [ho] at hj
      obtain rfl := Option.some.inj hj
      refine ⟨v, ?_, by rw [hR]; exact hv⟩
      unfold Act.put
      rw [hdj]
      exact Array.getElem?_setIfInBounds_self_of_lt (by rw [hI.tm]; exact hd d hdj)
    · obtain ⟨u, h1, h2⟩ := hI.t1 j oj d hl hj hdj
      refine ⟨u, ?_, h2.mono hadv.le⟩
      rw [hput d (fun hdi => ?_)]
      · exact h1
      · have hne : j ≠ i := fun e => hu (e ▸ hl)
        rcases Nat.lt_or_ge j i with h | h
        · exact hF.one j i oj o d h hj ho hdj hdi
        · exact hF.one i j o oj d (by omega) ho hj hdi hdj
  · have hdi : o.dst ≠ some t := fun e => hno i o ho e ((hLs i).2 (.inl rfl))
    obtain ⟨u, h1, h2⟩ := hI.t0 t x hx fun j oj hj hdj hl => hno j oj hj hdj ((hLs j).2 (.inr hl))
    exact ⟨u, by rw [hput t hdi]; exact h1, h2.mono hadv.le⟩
  · rw [← hI.d]
    unfold Act.put
    split <;> rfl
end
end
end Go.Proofs.YtnikgcedifdaeaaGreatDoor.Ab
end

section
/- A region in a drawn order: any order is as the text's. Plain. -/
namespace Go.Proofs.YtnikgcedifdaeaaGreatDoor.Ab
open Go
noncomputable section
section
variable {C : Cfg} {ρ : Nat → Int} {W : World} {call : CallFn} {N : Nat} {ops : Array Oper} {S : Nat → St} {R : Nat → AV}
theorem InvD.names {all : List Oper} (hS : ∀ i o, 0 ≤ i → all[i]? = some o → StepD call C N all (S i) o (R i) (S (i + 1))) (hF : DrawFacts all) {Γ0 Γ : Gam} {w0 w : World} {listed : Array Bool} {a : Act} {i : Nat} {o : Oper} (hI : InvD C ρ W N all S R Γ0 w0 listed a w Γ) (ho : all[i]? = some o) (hu : ¬ Lst listed i)
    (hedge : ∀ e ∈ o.after.toList, Region.binds .any e = true → Lst listed e.on) (t : Nat) (ht : t ∈ namesO all o) (x : AV) (hx : (S i).T.get t = some x) : ∃ v, a.tmps[t]? = some v ∧ VR Γ x v := by
  have hi : i < all.length := (List.getElem?_eq_some_iff.1 ho).1
  rcases tmp_from hS t x i (by omega) hx with ⟨k, ok, hk, hok, hd, rfl⟩ | ⟨hno, h0⟩
  · obtain ⟨m, hm, hb⟩ := hF.ord k i ok o t hk hok ho (.inl ⟨hd, ht⟩)
    exact hI.t1 k ok t (mask_listed hI.closed i o m k ho hm hb hedge) hok hd
  · refine hI.t0 t x h0 fun j oj hj hdj hl => ?_
    rcases Nat.lt_trichotomy j i with h | h | h
    · exact hno j oj h hj hdj
    · exact hu (h ▸ hl)
    · obtain ⟨m, hm, hb⟩ := hF.ord i j o oj t h ho hj (.inr ⟨hdj, ht⟩)
      exact hu (mask_listed hI.closed j oj m i hj hm hb fun e he hbe => hI.closed j oj hj hl e he hbe)
theorem ready_iff {listed : Array Bool} (hs : listed.size = ops.size) (i : Nat) : i ∈ Region.ready .any ops listed ↔ ∃ o, ops[i]? = some o ∧ ¬ Lst listed i ∧ ∀ e ∈ o.after.toList, Region.binds .any e = true → Lst listed e.on := by
  unfold Region.ready
  rw [List.mem_filter, List.mem_range]
  have g1 : ∀ k, (listed.getD k false = true) ↔ Lst listed k := by
    intro k
    unfold Lst
    rw [Array.getD_eq_getD_getElem?]
    cases listed[k]? with
    | none => simp
    | some b => simp
  constructor
  · rintro ⟨hi, h⟩
    have hi' : ops[i]? = some ops[i] := Array.getElem?_eq_getElem hi
    rw [hi', Bool.and_eq_true] at h
    refine ⟨ops[i], hi', ?_, fun e he hb => ?_⟩
    · unfold Lst
      intro hl
      have := h.1
      rw [Array.getD_eq_getD_getElem?, hl] at this
      simp at this
    · have h2 := h.2
      simp only [Option.map_some, Option.getD_some] at h2
      rw [← Array.all_toList, List.all_eq_true] at h2
      have := h2 e he
      rw [hb] at this
      simp only [Bool.not_true, Bool.false_or] at this
      exact (g1 _).1 this
  · rintro ⟨o, ho, hu, hedge⟩
    have hi : i < ops.size := (Array.getElem?_eq_some_iff.1 ho).1
    refine ⟨hi, ?_⟩
    rw [ho, Bool.and_eq_true]
    refine ⟨?_, ?_⟩
    · rw [Array.getD_eq_getD_getElem?]
      unfold Lst at hu
      have hlt : i < listed.size := by omega
      rw [Array.getElem?_eq_getElem hlt] at hu ⊢
      simp at hu ⊢
      exact hu
    · simp only [Option.map_some, Option.getD_some]
      rw [← Array.all_toList, List.all_eq_true]
      intro e he
      cases hb : Region.binds .any e with
      | false => rfl
      | true => simp only [Bool.not_true, Bool.false_or]; exact (g1 _).2 (hedge e he hb)
/-- ████ Operations in a drawn order. ████ -/
theorem opsD_wp (hC : C.Ok ρ W) (hcall : CallOk C ρ W call) (hu : CallUp call) {Q : Exit → Act → World → Prop} (hok : drawOk ops.toList = true) {s s' : St} (h : opsD call C N ops.toList ops.toList s = some s') {Γ : Gam} {a : Act} {w : World} (hfit : Fits C ρ W Γ) (hi : Is Γ N s a w) (hf : Free Γ s.A.next s'.A.next)
    (hQ : ∀ a' w' Γ', Is Γ' N s' a' w' → Adv Γ s.A w Γ' s'.A w' → Q .normal a' w') : wpAny C.P .any ops Q ops.size (Array.replicate ops.size false) a w := by
  have hF := drawOk_facts hok
  obtain ⟨S, R, h0, hn, hS⟩ := opsD_chain ops.toList 0 s s' rfl h
  rw [Nat.zero_add] at hn
  have hlow := (opsD_up hu _ _ _ h).2
  subst h0 hn
  have hw := way_of hC hcall hu hS hfit hi hf
  have len : ops.toList.length = ops.size := by simp
  have get : ∀ (i : Nat) (o : Oper), ops[i]? = some o ↔ ops.toList[i]? = some o := fun i o => by simp
  have main : ∀ (fuel : Nat) (listed : Array Bool) (a' : Act) (w' : World) (Γ' : Gam), InvD C ρ W N ops.toList S R Γ w listed a' w' Γ' → unl (Lst listed) ops.size ≤ fuel → wpAny C.P .any ops Q fuel listed a' w' := by
    have full : ∀ (listed : Array Bool) (a' : Act) (w' : World) (Γ' : Gam), InvD C ρ W N ops.toList S R Γ w listed a' w' Γ' → (∀ i, i < ops.size → Lst listed i) → Q .normal a' w' := by
      intro listed a' w' Γ' hI hall
      refine hQ a' w' Γ' ⟨⟨hI.tm, fun t x hx => ?_⟩, hI.adv.hr, hI.d⟩ hI.adv
      rcases tmp_from hS t x _ (Nat.le_refl _) hx with ⟨k, ok, hk, hok, hd, rfl⟩ | ⟨hno, h0⟩
      · exact hI.t1 k ok t (hall k (by omega)) hok hd
      · exact hI.t0 t x h0 fun i o ho hd _ => hno i o (List.getElem?_eq_some_iff.1 ho).1 ho hd
    have stuck : ∀ (listed : Array Bool), listed.size = ops.size → Region.ready .any ops listed = [] → ∀ i, i < ops.size → Lst listed i := by
      intro listed hs hr i
      induction i using Nat.strongRecOn with
      | _ i ih =>
        intro hi
        by_cases hl : Lst listed i
        · exact hl
        · exfalso
          have ho : ops[i]? = some ops[i] := Array.getElem?_eq_getElem hi
          have : i ∈ Region.ready .any ops listed := (ready_iff hs i).2 ⟨ops[i], ho, hl, fun e he hb => by
            have := hF.edges i ops[i] ((get _ _).1 ho) e he hb
            exact ih e.on this (by omega)⟩
          rw [hr] at this
          cases this
    intro fuel
    induction fuel with
    | zero =>
      intro listed a' w' Γ' hI hle
      have hall := unl_zero (L := Lst listed) ops.size (by omega)
      refine ⟨?_, full listed a' w' Γ' hI hall⟩
      cases hr : Region.ready .any ops listed with
      | nil => rfl
      | cons i r =>
        exfalso
        have : i ∈ Region.ready .any ops listed := by rw [hr]; exact List.mem_cons_self
        obtain ⟨o, ho, hl, _⟩ := (ready_iff (by rw [hI.size, len]) i).1 this
        exact hl (hall i (Array.getElem?_eq_some_iff.1 ho).1)
    | succ fuel ih =>
      intro listed a' w' Γ' hI hle
      have hs : listed.size = ops.size := by rw [hI.size, len]
      refine ⟨fun hr => full listed a' w' Γ' hI (stuck listed hs hr), fun i hi => ?_⟩
      obtain ⟨o, ho, hul, hedge⟩ := (ready_iff hs i).1 hi
      have hil : i < ops.size := (Array.getElem?_eq_some_iff.1 ho).1
      have ho' := (get i o).1 ho
      obtain ⟨T', hp, hcase⟩ := hS i o (Nat.zero_le _) ho'
      have hnm := hI.names hS hF ho' hul hedge
      have hdN : ∀ d, o.dst = some d → d < N := by
        intro d hd
        rw [hd] at hp
        unfold putT at hp
        simp only at hp
        split at hp
        · rename_i hb; exact Nat.le_of_ble_eq_true hb
        · cases hp
      have hguard : ∀ t, guardA ops.toList (S i).T o = some t → Region.wanted o (yielded ops a'.tmps) = t := fun t hg => guardA_eq hg fun j b d p hgj hpj hpd => by
        have hmem : d ∈ namesO ops.toList o := by
          unfold namesO guardTmp
          rw [hgj]
          have : nth ops.toList j = some p := by rw [nth_eq]; simpa using hpj
          simp only [this, hpd]
          simp
        refine ⟨fun x hx => ?_, fun l hl => ?_⟩
        · obtain ⟨v, h1, h2⟩ := hnm d hmem _ hx
          cases h2
          exact h1
        · obtain ⟨v, h1, h2⟩ := hnm d hmem _ hl
          obtain ⟨m, rfl, _⟩ := h2.of_tuple
          exact ⟨m, h1⟩
      have hcnt : ∀ b : Array Bool, b = listed.setIfInBounds i true → unl (Lst b) ops.size ≤ fuel := by
        rintro b rfl
        have hLs : ∀ j, Lst (listed.setIfInBounds i true) j ↔ (j = i ∨ Lst listed j) := by
          intro j
          unfold Lst
          rw [Array.getElem?_setIfInBounds]
          by_cases e : i = j
          · subst e; simp [hs, hil]
          · rw [if_neg e]
            constructor
            · exact .inr
            · rintro (h | h)
              · exact absurd h.symm e
              · exact h
        have := (unl_set (L := Lst listed) (L' := Lst (listed.setIfInBounds i true)) hul hLs ops.size).1 hil
        omega
      unfold wpOp
      rw [ho]
      simp only
      rcases hcase with ⟨hg, A', hst, hlw, e⟩ | ⟨hg, ha, e⟩
      · rw [if_pos (hguard _ hg)]
        left
        have hnx : A'.next = (S (i + 1)).A.next := by rw [e]
        have hAh : A'.h = (S (i + 1)).A.h := by rw [e]
        have le1 : ∀ k, k ≤ ops.toList.length → (S k).A.next ≤ (S ops.toList.length).A.next := fun k hk => by
          have := hw.up' k (ops.toList.length - k) (by omega)
          rwa [show k + (ops.toList.length - k) = ops.toList.length by omega] at this
        have hr' : HR Γ' ⟨(S i).A.next, (S i).A.next, (S i).A.h⟩ w' := by
          have same1 : ∀ b, b < (S i).A.next → (S ops.toList.length).A.h.get b = (S i).A.h.get b := fun b hb => by
            have := hw.same' i (ops.toList.length - i) (by omega) b hb
            rwa [show i + (ops.toList.length - i) = ops.toList.length by omega] at this
          have up : ∀ b o, (S i).A.h.get b = some o → (S ops.toList.length).A.h.get b = some o := fun b o hb => by rw [same1 b (hw.wf i (by omega) b o hb)]; exact hb
          have q := hI.adv.hr
          exact ⟨fun b c s o h1 h2 => q.at_ b c s o h1 (up b o h2), q.lt, fun b b' c s s' o o' h1 h2 h3 h4 => q.inj b b' c s s' o o' h1 h2 (up b o h3) (up b' o' h4), fun b c s o h1 h2 => q.own b c s o h1 (up b o h2), q.old, q.size, q.tape, q.os, q.output, q.drawn, hw.wf i (by omega)⟩
        refine stepA_wp hC hcall hI.fit hr' (valN_ok hI.fit.gl fun t x ht hx => hnm t ht x hx) hst ?_ fun v w'' Γ'' hadv hv => ?_
        · intro b h1 h2
          exact hI.fresh i (by omega) hul b h1 (by rw [← hnx]; exact h2)
        · exact ih _ _ _ Γ'' (hI.step hw hlow ho' hul hedge hF hnx hAh hadv hv rfl hdN) (hcnt _ rfl)
      · rw [if_neg (by rw [hguard _ hg]; simp)]
        have hnx : (S i).A.next = (S (i + 1)).A.next := by rw [e]
        have hAh : (S i).A.h = (S (i + 1)).A.h := by rw [e]
        have hr' : HR Γ' ⟨(S i).A.next, (S i).A.next, (S i).A.h⟩ w' := by
          have same1 : ∀ b, b < (S i).A.next → (S ops.toList.length).A.h.get b = (S i).A.h.get b := fun b hb => by
            have := hw.same' i (ops.toList.length - i) (by omega) b hb
            rwa [show i + (ops.toList.length - i) = ops.toList.length by omega] at this
          have up : ∀ b o, (S i).A.h.get b = some o → (S ops.toList.length).A.h.get b = some o := fun b o hb => by rw [same1 b (hw.wf i (by omega) b o hb)]; exact hb
          have q := hI.adv.hr
          exact ⟨fun b c s o h1 h2 => q.at_ b c s o h1 (up b o h2), q.lt, fun b b' c s s' o o' h1 h2 h3 h4 => q.inj b b' c s s' o o' h1 h2 (up b o h3) (up b' o' h4), fun b c s o h1 h2 => q.own b c s o h1 (up b o h2), q.old, q.size, q.tape, q.os, q.output, q.drawn, hw.wf i (by omega)⟩
        exact ih _ _ _ Γ' (hI.step (A' := ⟨(S i).A.next, (S i).A.next, (S i).A.h⟩) hw hlow ho' hul hedge hF hnx hAh (Adv.refl hr') undef_VR ha hdN) (hcnt _ rfl)
  refine main ops.size _ a w Γ ⟨hfit, by simp, fun i o ho hl => ?_, ?_, fun i hil hul b h1 h2 => ?_, hi.T.size, fun i o d hl => ?_, fun t x hx _ => hi.T.at_ t x hx, hi.d⟩ (unl_le _)
  · unfold Lst at hl
    rw [Array.getElem?_replicate] at hl
    split at hl <;> cases hl
  · have q := hi.A
    have len1 := hw.up' 0 ops.toList.length (by omega)
    rw [Nat.zero_add] at len1
    have same0 : ∀ b, b < (S 0).A.next → (S ops.toList.length).A.h.get b = (S 0).A.h.get b := fun b hb => by
      have := hw.same' 0 ops.toList.length (by omega) b hb
      rwa [Nat.zero_add] at this
    have down : ∀ b x o, Γ.β b = some x → (S ops.toList.length).A.h.get b = some o → (S 0).A.h.get b = some o := fun b x o hb h => by
      have h1 := hw.wf _ (Nat.le_refl _) b o h
      rcases Nat.lt_or_ge b (S 0).A.next with h2 | h2
      · rw [← same0 b h2]; exact h
      · rw [hf b h2 h1] at hb; cases hb
    refine ⟨.refl _, fun _ _ h => .inl h, len1, ⟨fun b c s o h1 h2 => q.at_ b c s o h1 (down b _ o h1 h2), q.lt, fun b b' c s s' o o' h1 h2 h3 h4 => q.inj b b' c s s' o o' h1 h2 (down b _ o h1 h3) (down b' _ o' h2 h4), fun b c s o h1 h2 => q.own b c s o h1 (down b _ o h1 h2), q.old, q.size, q.tape, q.os, q.output, q.drawn, hw.wf _ (Nat.le_refl _)⟩,
      fun _ _ _ => rfl, fun c _ ⟨b, s, o, h1, h2, h3⟩ => ⟨b, s, o, h1, down b _ o h1 h2, h3⟩, Nat.le_refl _, Nat.le_of_eq hlow, fun b _ hb => same0 b hb, fun b c s e e' => by rw [e'] at e; cases e⟩
  · refine hf b ?_ ?_
    · have := hw.up' 0 i (by omega)
      rw [Nat.zero_add] at this
      omega
    · have := hw.up' (i + 1) (ops.toList.length - (i + 1)) (by omega)
      rw [show i + 1 + (ops.toList.length - (i + 1)) = ops.toList.length by omega] at this
      omega
  · unfold Lst at hl
    rw [Array.getElem?_replicate] at hl
    split at hl <;> cases hl
end
end
end Go.Proofs.YtnikgcedifdaeaaGreatDoor.Ab
end

section
/- A region whose last operations wait for all others: those may write elder memory. Plain. -/
namespace Go.Proofs.YtnikgcedifdaeaaGreatDoor.Ab
open Go
noncomputable section
def sufFull : Nat → List Nat → Bool
  | _, [] => true
  | j, m :: r => bif natIs m (2 ^ j - 1) then sufFull (j + 1) r else false
def tailK : Nat → List Nat → Nat
  | j, [] => j
  | j, m :: r => bif sufFull j (m :: r) then j else tailK (j + 1) r
theorem sufFull_at : ∀ (l : List Nat) (j i m : Nat), sufFull j l = true → l[i]? = some m → m = 2 ^ (j + i) - 1
  | [], j, i, m, _, h => by simp at h
  | x :: r, j, i, m, hf, h => by
    unfold sufFull at hf
    cases h1 : natIs x (2 ^ j - 1) with
    | false => rw [h1] at hf; cases hf
    | true =>
      rw [h1] at hf
      cases i with
      | zero => simp at h; subst h; exact natIs_eq h1
      | succ i =>
        have := sufFull_at r (j + 1) i m hf (by simpa using h)
        rwa [show j + (i + 1) = j + 1 + i by omega]
theorem tailK_at : ∀ (l : List Nat) (j i m : Nat), tailK j l ≤ j + i → l[i]? = some m → m = 2 ^ (j + i) - 1
  | [], j, i, m, _, h => by simp at h
  | x :: r, j, i, m, hk, h => by
    unfold tailK at hk
    cases h1 : sufFull j (x :: r) with
    | true => exact sufFull_at _ j i m h1 h
    | false =>
      rw [h1] at hk
      simp only [cond_false] at hk
      have ge : ∀ (l : List Nat) (j : Nat), j ≤ tailK j l := by
        intro l
        induction l with
        | nil => intro j; exact Nat.le_refl _
        | cons y l ih =>
          intro j
          unfold tailK
          cases sufFull j (y :: l) with
          | true => exact Nat.le_refl _
          | false => simp only [cond_false]; exact Nat.le_trans (Nat.le_succ _) (ih (j + 1))
      cases i with
      | zero => have := ge r (j + 1); omega
      | succ i =>
        have := tailK_at r (j + 1) i m (by omega) (by simpa using h)
        rwa [show j + (i + 1) = j + 1 + i by omega]
def guardsIn (k : Nat) : List Oper → Bool
  | [] => true
  | o :: r => match o.guard with
    | none => guardsIn k r
    | some (j, _) => bif Nat.blt j k then guardsIn k r else false
theorem guardsIn_lt {k : Nat} : ∀ {l : List Oper}, guardsIn k l = true → ∀ o ∈ l, ∀ j b, o.guard = some (j, b) → j < k
  | [], _, o, ho, _, _, _ => by cases ho
  | x :: r, h, o, ho, j, b, hg => by
    unfold guardsIn at h
    split at h
    · rename_i hx
      rcases List.mem_cons.1 ho with rfl | ho
      · rw [hg] at hx; cases hx
      · exact guardsIn_lt h o ho j b hg
    · rename_i j' b' hx
      cases hj : Nat.blt j' k with
      | false => rw [hj] at h; cases h
      | true =>
        rw [hj] at h
        rcases List.mem_cons.1 ho with rfl | ho
        · rw [hg] at hx; cases hx; exact Nat.le_of_ble_eq_true hj
        · exact guardsIn_lt h o ho j b hg
section
variable {P : Program} {ops : Array Oper} {Q Q' : Exit → Act → World → Prop}
theorem LetsOut.mono (h : ∀ e a w, e ≠ .normal → Q' e a w → Q e a w) : LetsOut Q' → LetsOut Q := fun ⟨a, w, x⟩ => ⟨a, w, h _ _ _ (by intro e; cases e) x⟩
theorem Oper.wp_mono2 {o : Oper} {a : Act} {w : World} {K K' : Act → World → Prop} (h : ∀ a w, K' a w → K a w) (hq : ∀ e a w, e ≠ .normal → Q' e a w → Q e a w) (hh : o.wp P a w K' Q') : o.wp P a w K Q := by
  unfold Oper.wp at *
  generalize (execOp a.eval o).run P w = r at *
  cases r with
  | ok n w' =>
    cases n <;> simp only [Oper.upon] at hh ⊢
    case value => exact h _ _ hh
    case skip => exact h _ _ hh
    case defer => exact h _ _ hh
    case enter =>
      refine Calls.mono hh (fun e w'' he => ?_)
      cases e with
      | returned v => exact h _ _ he
      | panicked c => exact hq _ _ _ (by intro e; cases e) he
      | outgrown => exact LetsOut.mono hq he
    case row => exact Rows.mono hh (fun _ _ he => h _ _ he)
  | halt x w' =>
    cases x <;> simp only [Oper.upon] at hh ⊢
    case panic => exact hq _ _ _ (by intro e; cases e) hh
/-- From j on, in the text's order. -/
theorem wpAny_seq {all : List Oper} (hall : all = ops.toList) (k : Nat) (full : ∀ j o, k ≤ j → all[j]? = some o → ∀ (L : Nat → Prop), Closed all L → (∀ e ∈ o.after.toList, Region.binds .any e = true → L e.on) → ∀ i, i < j → L i)
    (hedge : ∀ j o, all[j]? = some o → ∀ e ∈ o.after.toList, Region.binds .any e = true → e.on < j) : ∀ (d j fuel : Nat) (listed : Array Bool) (a : Act) (w : World), k ≤ j → j + d = ops.size → d ≤ fuel → listed.size = ops.size → (∀ i, Lst listed i ↔ i < j) → wpOps P ops Q (List.range' j d) a w → wpAny P .any ops Q fuel listed a w
  | 0, j, fuel, listed, a, w, hk, hj, hf, hs, hl, h => by
    have hnr : Region.ready .any ops listed = [] := by
      cases hr : Region.ready .any ops listed with
      | nil => rfl
      | cons i r =>
        exfalso
        have : i ∈ Region.ready .any ops listed := by rw [hr]; exact List.mem_cons_self
        obtain ⟨o, ho, hu, _⟩ := (ready_iff hs i).1 this
        have := (Array.getElem?_eq_some_iff.1 ho).1
        exact hu ((hl i).2 (by omega))
    cases fuel with
    | zero => exact ⟨hnr, h⟩
    | succ fuel => exact ⟨fun _ => h, fun i hi => (by rw [hnr] at hi; cases hi)⟩
  | d + 1, j, fuel, listed, a, w, hk, hj, hf, hs, hl, h => by
    cases fuel with
    | zero => omega
    | succ fuel =>
      have get : ∀ (i : Nat) (o : Oper), ops[i]? = some o → all[i]? = some o := fun i o h => by rw [hall]; simpa using h
      have hclosed : Closed all (Lst listed) := fun i o ho hli e he hb => (hl _).2 (by have := hedge i o ho e he hb; have := (hl i).1 hli; omega)
      have honly : ∀ i, i ∈ Region.ready .any ops listed → i = j := by
        intro i hi
        obtain ⟨o, ho, hu, he⟩ := (ready_iff hs i).1 hi
        have hij : ¬ i < j := fun x => hu ((hl i).2 x)
        rcases Nat.lt_or_ge j i with h' | h'
        · exfalso
          have := full i o (by omega) (get i o ho) (Lst listed) hclosed he j h'
          have := (hl j).1 this
          omega
        · omega
      have hjr : j ∈ Region.ready .any ops listed := by
        have hlt : j < ops.size := by omega
        exact (ready_iff hs j).2 ⟨ops[j], Array.getElem?_eq_getElem hlt, fun x => by have := (hl j).1 x; omega, fun e he hb => (hl _).2 (hedge j _ (get j _ (Array.getElem?_eq_getElem hlt)) e he hb)⟩
      rw [List.range'_succ, wpOps_cons] at h
      refine ⟨fun hr => (by rw [hr] at hjr; cases hjr), fun i hi => ?_⟩
      obtain rfl := honly i hi
      refine wpOp_mono (fun a w hh => ?_) h
      refine wpAny_seq hall k full hedge d (i + 1) fuel _ a w (by omega) (by omega) (by omega) (by simp [hs]) (fun m => ?_) hh
      unfold Lst
      rw [Array.getElem?_setIfInBounds]
      have := hl m
      unfold Lst at this
      by_cases e : i = m
      · subst e; simp [hs]; omega
      · rw [if_neg e, this]; omega
theorem lst_app {l : Array Bool} {d i : Nat} : Lst (l ++ Array.replicate d false) i ↔ Lst l i := by
  unfold Lst
  rcases Nat.lt_or_ge i l.size with h | h
  · rw [Array.getElem?_append_left h]
  · rw [Array.getElem?_append_right h, Array.getElem?_replicate, Array.getElem?_eq_none h]
    split <;> simp
/-- The first k in a drawn order, then the others. -/
theorem wpAny_tail {all : List Oper} (hall : all = ops.toList) {k : Nat} (hk : k ≤ ops.size) (full : ∀ j o, k ≤ j → all[j]? = some o → ∀ (L : Nat → Prop), Closed all L → (∀ e ∈ o.after.toList, Region.binds .any e = true → L e.on) → ∀ i, i < j → L i)
    (hedge : ∀ j o, all[j]? = some o → ∀ e ∈ o.after.toList, Region.binds .any e = true → e.on < j) (hguard : ∀ i o, i < k → all[i]? = some o → ∀ j b, o.guard = some (j, b) → j < k)
    (hq : ∀ e a w, e ≠ .normal → Q' e a w → Q e a w) (hn : ∀ a w, Q' .normal a w → wpOps P ops Q (List.range' k (ops.size - k)) a w) :
    ∀ (f : Nat) (listed : Array Bool) (a : Act) (w : World), listed.size = k → Closed all (Lst listed) → wpAny P .any (ops.extract 0 k) Q' f listed a w → wpAny P .any ops Q (f + (ops.size - k)) (listed ++ Array.replicate (ops.size - k) false) a w := by
  have get : ∀ (i : Nat) (o : Oper), ops[i]? = some o ↔ all[i]? = some o := fun i o => by rw [hall]; simp
  have pre : ∀ (i : Nat), i < k → (ops.extract 0 k)[i]? = ops[i]? := fun i hi => by simp [Array.getElem?_extract]; omega
  have psz : (ops.extract 0 k).size = k := by simp; omega
  have allIn : ∀ (listed : Array Bool), listed.size = k → Region.ready .any (ops.extract 0 k) listed = [] → ∀ i, i < k → Lst listed i := by
    intro listed hs hr i
    induction i using Nat.strongRecOn with
    | _ i ih =>
      intro hi
      by_cases hl : Lst listed i
      · exact hl
      · exfalso
        have hlt : i < ops.size := by omega
        have : i ∈ Region.ready .any (ops.extract 0 k) listed := (ready_iff (by rw [hs, psz]) i).2 ⟨ops[i], by rw [pre i hi]; exact Array.getElem?_eq_getElem hlt, hl, fun e he hb => by
          have := hedge i ops[i] ((get _ _).1 (Array.getElem?_eq_getElem hlt)) e he hb
          exact ih e.on this (by omega)⟩
        rw [hr] at this
        cases this
  have done : ∀ (fuel : Nat) (listed : Array Bool) (a : Act) (w : World), listed.size = k → ops.size - k ≤ fuel → Region.ready .any (ops.extract 0 k) listed = [] → Q' .normal a w → wpAny P .any ops Q fuel (listed ++ Array.replicate (ops.size - k) false) a w := by
    intro fuel listed a w hs hf hr hQ
    refine wpAny_seq hall k full hedge (ops.size - k) k fuel _ a w (Nat.le_refl _) (by omega) hf (by simp [hs]; omega) (fun i => ?_) (hn a w hQ)
    rw [lst_app]
    constructor
    · intro h
      unfold Lst at h
      have := (Array.getElem?_eq_some_iff.1 h).1
      omega
    · exact allIn listed hs hr i
  intro f
  induction f with
  | zero =>
    intro listed a w hs hc h
    exact done _ listed a w hs (by omega) h.1 h.2
  | succ f ih =>
    intro listed a w hs hc h
    obtain ⟨h1, h2⟩ := h
    cases hr : Region.ready .any (ops.extract 0 k) listed with
    | nil => exact done _ listed a w hs (by omega) hr (h1 hr)
    | cons i0 r0 =>
      have hsz : (listed ++ Array.replicate (ops.size - k) false).size = ops.size := by simp [hs]; omega
      have hi0 : i0 ∈ Region.ready .any (ops.extract 0 k) listed := by rw [hr]; exact List.mem_cons_self
      have inPre : ∀ i, i ∈ Region.ready .any ops (listed ++ Array.replicate (ops.size - k) false) → i < k ∧ i ∈ Region.ready .any (ops.extract 0 k) listed := by
        intro i hi
        obtain ⟨o, ho, hu, he⟩ := (ready_iff hsz i).1 hi
        have he' : ∀ e ∈ o.after.toList, Region.binds .any e = true → Lst listed e.on := fun e hm hb => lst_app.1 (he e hm hb)
        rcases Nat.lt_or_ge i k with hik | hik
        · exact ⟨hik, (ready_iff (by rw [hs, psz]) i).2 ⟨o, by rw [pre i hik]; exact ho, fun x => hu (lst_app.2 x), he'⟩⟩
        · exfalso
          obtain ⟨o0, ho0, hu0, _⟩ := (ready_iff (by rw [hs, psz]) i0).1 hi0
          have h0k : i0 < k := by have := (Array.getElem?_eq_some_iff.1 ho0).1; rw [psz] at this; exact this
          exact hu0 (full i o hik ((get i o).1 ho) (Lst listed) hc he' i0 (by omega))
      have outPre : i0 ∈ Region.ready .any ops (listed ++ Array.replicate (ops.size - k) false) := by
        obtain ⟨o, ho, hu, he⟩ := (ready_iff (by rw [hs, psz]) i0).1 hi0
        have h0k : i0 < k := by have := (Array.getElem?_eq_some_iff.1 ho).1; rw [psz] at this; exact this
        exact (ready_iff hsz i0).2 ⟨o, by rw [← pre i0 h0k]; exact ho, fun x => hu (lst_app.1 x), fun e hm hb => lst_app.2 (he e hm hb)⟩
      rw [show f + 1 + (ops.size - k) = (f + (ops.size - k)) + 1 by omega]
      refine ⟨fun hh => (by rw [hh] at outPre; cases outPre), fun i hi => ?_⟩
      obtain ⟨hik, hi'⟩ := inPre i hi
      have hw := h2 i hi'
      have hset : (listed ++ Array.replicate (ops.size - k) false).setIfInBounds i true = listed.setIfInBounds i true ++ Array.replicate (ops.size - k) false := by
        apply Array.ext_getElem?
        intro j
        rw [Array.getElem?_setIfInBounds]
        by_cases e : i = j
        · subst e
          rw [if_pos rfl, if_pos (by rw [hsz]; omega), Array.getElem?_append_left (by simp; omega), Array.getElem?_setIfInBounds_self_of_lt (by omega)]
        · rw [if_neg e]
          rcases Nat.lt_or_ge j k with hj | hj
          · rw [Array.getElem?_append_left (by omega), Array.getElem?_append_left (by simp; omega), Array.getElem?_setIfInBounds_ne e]
          · rw [Array.getElem?_append_right (by omega), Array.getElem?_append_right (by simp; omega)]
            simp
      obtain ⟨o, ho, hu, he⟩ := (ready_iff hsz i).1 hi
      have ho' := (get i o).1 ho
      have hc' : Closed all (Lst (listed.setIfInBounds i true)) := by
        intro j oj hj hlj e hm hb
        have lset : ∀ m, Lst listed m → Lst (listed.setIfInBounds i true) m := by
          intro m hm
          unfold Lst at hm ⊢
          rw [Array.getElem?_setIfInBounds]
          split
          · rename_i e; subst e; rw [if_pos (by omega)]
          · exact hm
        by_cases e1 : i = j
        · subst e1
          rw [ho'] at hj
          obtain rfl := Option.some.inj hj
          exact lset _ (lst_app.1 (he e hm hb))
        · unfold Lst at hlj
          rw [Array.getElem?_setIfInBounds_ne e1] at hlj
          exact lset _ (hc j oj hj hlj e hm hb)
      unfold wpOp at hw ⊢
      rw [pre i hik] at hw
      rw [ho] at hw ⊢
      simp only at hw ⊢
      have hy : Region.wanted o (yielded (ops.extract 0 k) a.tmps) = Region.wanted o (yielded ops a.tmps) := by
        unfold Region.wanted
        cases hg : o.guard with
        | none => rfl
        | some p =>
          obtain ⟨j, b⟩ := p
          have := hguard i o hik ho' j b hg
          simp only [yielded, pre j this]
      rw [hy] at hw
      have K : ∀ a w, wpAny P .any (ops.extract 0 k) Q' f (listed.setIfInBounds i true) a w → wpAny P .any ops Q (f + (ops.size - k)) ((listed ++ Array.replicate (ops.size - k) false).setIfInBounds i true) a w := by
        intro a w hh
        rw [hset]
        exact ih _ a w (by simp [hs]) hc' hh
      split
      · rename_i hwt
        rw [if_pos hwt] at hw
        exact hw.imp (Oper.wp_mono2 K hq) fun x => ⟨x.1, LetsOut.mono hq x.2⟩
      · rename_i hwt
        rw [if_neg hwt] at hw
        exact K _ _ hw
end
theorem rep_app (k d : Nat) : Array.replicate k false ++ Array.replicate d false = Array.replicate (k + d) false := by
  apply Array.ext'
  simp [List.replicate_append_replicate]
/-- A region in a drawn order: those that leave elder memory alone; then those that wait for all. -/
def drawAt (call : CallFn) (C : Cfg) (N : Nat) (all : List Oper) (s : St) (k : Nat) : Option St := match drawOk (all.take k) with
  | true => match allIx (fun j o => edgesOk j o.after.toList) 0 all with
    | true => match guardsIn k (all.take k) with
      | true => match opsD call C N (all.take k) (all.take k) s with
        | some s1 => ops1 call C N all (all.drop k) s1
        | none => none
      | false => none
    | false => none
  | false => none
def drawRegion (call : CallFn) (C : Cfg) (N : Nat) (all : List Oper) (s : St) : Option St := drawAt call C N all s (tailK 0 (masks [] all))
theorem drawRegion_eq {call : CallFn} {C : Cfg} {N : Nat} {all : List Oper} {s s' : St} (h : drawRegion call C N all s = some s') : ∃ k s1, k = tailK 0 (masks [] all) ∧ drawOk (all.take k) = true ∧ allIx (fun j o => edgesOk j o.after.toList) 0 all = true ∧
    guardsIn k (all.take k) = true ∧ opsD call C N (all.take k) (all.take k) s = some s1 ∧ ops1 call C N all (all.drop k) s1 = some s' := by
  unfold drawRegion drawAt at h
  split at h
  · rename_i h1
    split at h
    · rename_i h2
      split at h
      · rename_i h3
        split at h
        · rename_i s1 h4
          exact ⟨_, s1, rfl, h1, h2, h3, h4, h⟩
        · cases h
      · cases h
    · cases h
  · cases h
theorem drawRegion_up {call : CallFn} (hu : CallUp call) {C : Cfg} {N : Nat} {all : List Oper} {s s' : St} (h : drawRegion call C N all s = some s') : s.A.next ≤ s'.A.next := by
  obtain ⟨k, s1, _, _, _, _, h1, h2⟩ := drawRegion_eq h
  exact Nat.le_trans (opsD_up hu _ _ _ h1).1 (ops1_up hu _ _ _ h2)
theorem drawRegion_wp {C : Cfg} {ρ : Nat → Int} {W : World} {call : CallFn} {N : Nat} {ops : Array Oper} (hC : C.Ok ρ W) (hcall : CallOk C ρ W call) (hu : CallUp call) {Q : Exit → Act → World → Prop} {s s' : St} (h : drawRegion call C N ops.toList s = some s') {Γ : Gam} {a : Act} {w : World} (hfit : Fits C ρ W Γ) (hi : Is Γ N s a w) (hf : Free Γ s.A.next s'.A.next)
    (hQ : ∀ a' w' Γ', Is Γ' N s' a' w' → Adv Γ s.A w Γ' s'.A w' → Q .normal a' w') : wpAny C.P .any ops Q ops.size (Array.replicate ops.size false) a w := by
  obtain ⟨k0, s1, hk0, h1, h2, h3, h4, h5⟩ := drawRegion_eq h
  have hlen : (masks [] ops.toList).length = ops.size := by rw [masks_len]; simp
  have hedge : ∀ (j : Nat) (o : Oper), ops.toList[j]? = some o → ∀ e ∈ o.after.toList, Region.binds .any e = true → e.on < j := by
    intro j o ho
    have := allIx_at ops.toList 0 j o h2 ho
    rw [Nat.zero_add] at this
    exact edgesOk_lt this
  have hkn : k0 ≤ ops.size := by
    have le : ∀ (l : List Nat) (j : Nat), tailK j l ≤ j + l.length := by
      intro l
      induction l with
      | nil => intro j; exact Nat.le_refl _
      | cons x l ih =>
        intro j
        unfold tailK
        cases sufFull j (x :: l) with
        | true => simp
        | false =>
          have := ih (j + 1)
          simp only [cond_false, List.length_cons]
          omega
    have := le (masks [] ops.toList) 0
    rw [← hk0, hlen] at this
    omega
  have full : ∀ (j : Nat) (o : Oper), k0 ≤ j → ops.toList[j]? = some o → ∀ (L : Nat → Prop), Closed ops.toList L → (∀ e ∈ o.after.toList, Region.binds .any e = true → L e.on) → ∀ i, i < j → L i := by
    intro j o hj ho L hc he i hij
    have hlt : j < (masks [] ops.toList).length := by rw [hlen]; have := (List.getElem?_eq_some_iff.1 ho).1; simpa using this
    have hm : (masks [] ops.toList)[j]? = some (masks [] ops.toList)[j] := List.getElem?_eq_getElem hlt
    have hv := tailK_at (masks [] ops.toList) 0 j _ (by rw [← hk0]; omega) hm
    rw [Nat.zero_add] at hv
    exact mask_listed hc j o _ i ho hm (by rw [hv, Nat.testBit_two_pow_sub_one]; simpa using hij) he
  have hguard : ∀ (i : Nat) (o : Oper), i < k0 → ops.toList[i]? = some o → ∀ j b, o.guard = some (j, b) → j < k0 := by
    intro i o hik ho
    refine guardsIn_lt h3 o ?_
    have : (ops.toList.take k0)[i]? = some o := by rw [List.getElem?_take, if_pos hik]; exact ho
    exact List.mem_of_getElem? this
  have hpre : (ops.extract 0 k0).toList = ops.toList.take k0 := by simp [Array.toList_extract, List.extract_eq_take_drop]
  have hpsz : (ops.extract 0 k0).size = k0 := by simp; omega
  have u2 := ops1_up hu _ _ _ h5
  have hw := opsD_wp (ops := ops.extract 0 k0) hC hcall hu (Q := fun e a w => match e with | .normal => wpOps C.P ops Q (List.range' k0 (ops.size - k0)) a w | e => Q e a w) (by rw [hpre]; exact h1) (s := s) (s' := s1) (by rw [hpre]; exact h4) hfit hi (hf.left u2) (fun a1 w1 Γ1 i1 ad1 => by
    have := ops1_wp hC hcall hu (Q := Q) (ops.toList.drop k0) k0 s1 s' Γ1 a1 w1 rfl h5 (hfit.mono ad1.le) i1 (hf.right ad1) fun a2 w2 Γ2 i2 ad2 => hQ a2 w2 Γ2 i2 (ad1.trans ad2)
    simpa using this)
  have ht := wpAny_tail (ops := ops) (P := C.P) rfl hkn full hedge hguard (Q := Q) (Q' := fun e a w => match e with | .normal => wpOps C.P ops Q (List.range' k0 (ops.size - k0)) a w | e => Q e a w)
    (fun e a w hne hh => by cases e <;> first | exact absurd rfl hne | exact hh) (fun a w hh => hh) (ops.extract 0 k0).size (Array.replicate (ops.extract 0 k0).size false) a w (by simp; omega) (fun i o _ hl => by
      unfold Lst at hl
      rw [Array.getElem?_replicate] at hl
      split at hl <;> cases hl) hw
  have e1 : (ops.extract 0 k0).size + (ops.size - k0) = ops.size := by omega
  have e2 : Array.replicate (ops.extract 0 k0).size false ++ Array.replicate (ops.size - k0) false = Array.replicate ops.size false := by
    rw [rep_app, e1]
  rw [e1, e2] at ht
  exact ht
end
end Go.Proofs.YtnikgcedifdaeaaGreatDoor.Ab
end

section
/- A region in a drawn order with a store that some plain operations need not come ahead of: those may be taken first. Plain. -/
namespace Go.Proofs.YtnikgcedifdaeaaGreatDoor.Ab
open Go
noncomputable section
def memL (i : Nat) : List Nat → Bool
  | [] => false
  | a :: r => bif Nat.beq i a then true else memL i r
theorem memL_iff {i : Nat} : ∀ {l : List Nat}, memL i l = true ↔ i ∈ l
  | [] => by simp [memL]
  | a :: r => by
    unfold memL
    cases h : Nat.beq i a with
    | true => have := Nat.eq_of_beq_eq_true h; subst this; simp
    | false =>
      have hne : i ≠ a := fun e => by subst e; simp at h
      simp [memL_iff (l := r), hne]
def onE (i : Nat) : List Edge → Bool
  | [] => false
  | e :: r => bif (Region.binds .any e && Nat.beq e.on i) then true else onE i r
theorem onE_of {i : Nat} : ∀ {l : List Edge}, onE i l = true → ∃ e ∈ l, Region.binds .any e = true ∧ e.on = i
  | [], h => by cases h
  | e :: r, h => by
    unfold onE at h
    cases hb : (Region.binds .any e && Nat.beq e.on i) with
    | true =>
      rw [Bool.and_eq_true] at hb
      exact ⟨e, List.mem_cons_self, hb.1, Nat.eq_of_beq_eq_true hb.2⟩
    | false =>
      rw [hb] at h
      obtain ⟨e', h1, h2⟩ := onE_of (l := r) h
      exact ⟨e', List.mem_cons_of_mem _ h1, h2⟩
/-- All that it waits for is among them. -/
def inE (done : List Nat) : List Edge → Bool
  | [] => true
  | e :: r => bif Region.binds .any e then (bif memL e.on done then inE done r else false) else inE done r
theorem inE_of {done : List Nat} : ∀ {l : List Edge}, inE done l = true → ∀ e ∈ l, Region.binds .any e = true → e.on ∈ done
  | [], _, e, he, _ => by cases he
  | x :: r, h, e, he, hb => by
    unfold inE at h
    rcases List.mem_cons.1 he with rfl | he
    · rw [hb] at h
      cases hm : memL e.on done with
      | true => exact memL_iff.1 hm
      | false => rw [hm] at h; cases h
    · cases hx : Region.binds .any x with
      | false => rw [hx] at h; exact inE_of h e he hb
      | true =>
        rw [hx] at h
        cases hm : memL x.on done with
        | false => rw [hm] at h; cases h
        | true => rw [hm] at h; exact inE_of h e he hb
def plainOp (o : Oper) : Bool := match o.guard with
  | none => match o.dst with
    | some _ => match o.op with
      | .move _ | .assign _ | .binOp _ _ _ _ _ => true
      | _ => false
    | none => false
  | some _ => false
/-- Each of K may be taken first, in this order. -/
def okK (all : List Oper) : List Nat → List Nat → Bool
  | _, [] => true
  | done, i :: r => match nth all i with
    | none => false
    | some o => bif plainOp o then (bif inE done o.after.toList then (bif memL i done then false else (bif allIx (fun j oj => bif Nat.beq j i then true else bif memL j done then true else bif onE i oj.after.toList then true else o.apart all.toArray oj) 0 all then okK all (i :: done) r else false)) else false) else false
def noSel : List Oper → Bool
  | [] => true
  | o :: r => match o.op with
    | .select _ _ => false
    | _ => noSel r
theorem noSel_of : ∀ {l : List Oper}, noSel l = true → ∀ o ∈ l, ∀ cs b, o.op ≠ .select cs b
  | [], _, o, ho, _, _ => by cases ho
  | x :: r, h, o, ho, cs, b => by
    unfold noSel at h
    split at h
    · cases h
    · rename_i hx
      rcases List.mem_cons.1 ho with rfl | ho
      · exact hx cs b
      · exact noSel_of h o ho cs b
def edgesK (K : List Nat) : List Edge := K.map fun i => ⟨i, .data⟩
def withK (K : List Nat) (o : Oper) : Oper := { o with after := o.after ++ (edgesK K).toArray }
def fixL (st : Nat) (K : List Nat) (all : List Oper) : List Oper := match nth all st with
  | some o => all.set st (withK K o)
  | none => all
def isStore (o : Oper) : Bool := match o.op with
  | .store _ _ _ => true
  | .call c => match c.callee with
    | .builtin .append => true
    | _ => false
  | _ => false
def missing (m : Nat) : Nat → List Nat
  | 0 => []
  | n + 1 => missing m n ++ (bif m.testBit n then [] else [n])
def lateAt (all : List Oper) (ms : List Nat) (st : Nat) : Option (Nat × List Nat) := match nth all st with
  | none => none
  | some o => match isStore o with
    | false => none
    | true => match nth ms st with
      | none => none
      | some m => match missing m st with
        | [] => none
        | i :: r => bif okK all [] (i :: r) then (bif noSel all then some (st, i :: r) else none) else none
/-- The store, and what need not come ahead of it. -/
def lateOf (all : List Oper) : Option (Nat × List Nat) := lateAt all (masks [] all) (tailK 0 (masks [] all) - 1)
/-- What they yield. -/
def lateRun (C : Cfg) (N : Nat) (all : List Oper) : Tr AV → List Nat → Option (Tr AV)
  | T, [] => some T
  | T, i :: r => match nth all i with
    | none => none
    | some o => match o.op with
      | .move x | .assign x => match putT N T o.dst (val C T x) with
        | some T' => lateRun C N all T' r
        | none => none
      | .binOp op t x y _ => match evBin2 C.V C.P op t (val C T x) (val C T y) with
        | some (.int k e) => match putT N T o.dst (.int k e) with
          | some T' => lateRun C N all T' r
          | none => none
        | _ => none
      | _ => none
def drawR0 (call : CallFn) (C : Cfg) (N : Nat) (all : List Oper) (s : St) : Option St := match lateOf all with
  | some (st, K) => match lateRun C N all s.T K with
    | some _ => drawRegion call C N (fixL st K all) s
    | none => none
  | none => drawRegion call C N all s
section
variable {P : Program} {ops : Array Oper} {Q : Exit → Act → World → Prop}
theorem fixL_len {st : Nat} {K : List Nat} {all : List Oper} : (fixL st K all).length = all.length := by
  unfold fixL
  split <;> simp
theorem fixL_get {st : Nat} {K : List Nat} {all : List Oper} (i : Nat) : (fixL st K all)[i]? = if i = st then (all[i]?).map (withK K) else all[i]? := by
  unfold fixL
  rw [nth_eq]
  cases h : all[st]? with
  | none =>
    by_cases e : i = st
    · subst e; simp [h]
    · simp [e]
  | some o =>
    have hlt : st < all.length := (List.getElem?_eq_some_iff.1 h).1
    dsimp only
    rw [List.getElem?_set]
    by_cases e : st = i
    · subst e
      rw [if_pos rfl, if_pos hlt, if_pos rfl, h]
      rfl
    · rw [if_neg e, if_neg (Ne.symm e)]
theorem arr_get {st : Nat} {K : List Nat} (i : Nat) : (fixL st K ops.toList).toArray[i]? = if i = st then (ops[i]?).map (withK K) else ops[i]? := by
  have := fixL_get (st := st) (K := K) (all := ops.toList) i
  simpa using this
theorem exec_withK {K : List Nat} {o : Oper} (ρ : Operand → Value) : execOp ρ (withK K o) = execOp ρ o := by
  cases o
  rfl
theorem yielded_fix {st : Nat} {K : List Nat} (tmps : Array Value) : yielded (fixL st K ops.toList).toArray tmps = yielded ops tmps := by
  funext j
  unfold yielded
  have e : ((fixL st K ops.toList).toArray[j]?).bind (·.dst) = (ops[j]?).bind (·.dst) := by
    rw [arr_get]
    split
    · cases ops[j]? <;> rfl
    · rfl
  rw [e]
theorem wpOp_fix {st : Nat} {K : List Nat} {i : Nat} {F : Act → World → Prop} {a : Act} {w : World} (h : wpOp P (fixL st K ops.toList).toArray Q i F a w) : wpOp P ops Q i F a w := by
  unfold wpOp at h ⊢
  rw [arr_get, yielded_fix] at h
  by_cases e : i = st
  · rw [if_pos e] at h
    cases ho : ops[i]? with
    | none => rw [ho] at h; exact h
    | some o =>
      rw [ho] at h
      simp only [Option.map_some] at h
      have hw : Region.wanted (withK K o) (yielded ops a.tmps) = Region.wanted o (yielded ops a.tmps) := rfl
      rw [hw] at h
      unfold Oper.wp Oper.asks at h ⊢
      rw [exec_withK] at h
      exact h
  · rw [if_neg e] at h
    exact h
/-- Once all of K have come up, the two regions are the same. -/
theorem late_same {st : Nat} {K : List Nat} : ∀ (f : Nat) (listed : Array Bool) (a : Act) (w : World), listed.size = ops.size → (∀ i ∈ K, Lst listed i) → wpAny P .any (fixL st K ops.toList).toArray Q f listed a w → wpAny P .any ops Q f listed a w := by
  have hsz : (fixL st K ops.toList).toArray.size = ops.size := by simp [fixL_len]
  have hready : ∀ (listed : Array Bool), listed.size = ops.size → (∀ i ∈ K, Lst listed i) → ∀ i, i ∈ Region.ready .any ops listed ↔ i ∈ Region.ready .any (fixL st K ops.toList).toArray listed := by
    intro listed hs hK i
    rw [ready_iff hs, ready_iff (by rw [hs, hsz])]
    rw [arr_get]
    by_cases e : i = st
    · rw [if_pos e]
      constructor
      · rintro ⟨o, ho, hu, he⟩
        refine ⟨withK K o, by rw [ho]; rfl, hu, fun x hx hb => ?_⟩
        have hx : x ∈ (o.after ++ (edgesK K).toArray).toList := hx
        rw [Array.toList_append] at hx
        rcases List.mem_append.1 hx with hx | hx
        · exact he x hx hb
        · obtain ⟨j, hj, rfl⟩ := List.mem_map.1 (show x ∈ K.map fun i => (⟨i, .data⟩ : Edge) from by simpa [edgesK] using hx)
          exact hK j hj
      · rintro ⟨o', ho', hu, he⟩
        cases ho : ops[i]? with
        | none => rw [ho] at ho'; cases ho'
        | some o =>
          rw [ho] at ho'
          obtain rfl := Option.some.inj ho'
          refine ⟨o, rfl, hu, fun x hx hb => he x ?_ hb⟩
          show x ∈ (o.after ++ (edgesK K).toArray).toList
          rw [Array.toList_append]
          exact List.mem_append_left _ hx
    · rw [if_neg e]
  intro f
  induction f with
  | zero =>
    intro listed a w hs hK h
    refine ⟨?_, h.2⟩
    cases hr : Region.ready .any ops listed with
    | nil => rfl
    | cons i r =>
      have := (hready listed hs hK i).1 (by rw [hr]; exact List.mem_cons_self)
      rw [h.1] at this
      cases this
  | succ f ih =>
    intro listed a w hs hK h
    refine ⟨fun hr => h.1 ?_, fun i hi => ?_⟩
    · cases hr' : Region.ready .any (fixL st K ops.toList).toArray listed with
      | nil => rfl
      | cons i r =>
        have := (hready listed hs hK i).2 (by rw [hr']; exact List.mem_cons_self)
        rw [hr] at this
        cases this
    · refine wpOp_mono (fun a w hh => ?_) (wpOp_fix (h.2 i ((hready listed hs hK i).1 hi)))
      refine ih _ a w (by simp [hs]) (fun j hj => ?_) hh
      have := hK j hj
      unfold Lst at this ⊢
      rw [Array.getElem?_setIfInBounds]
      split
      · rename_i e
        subst e
        rw [if_pos (Array.getElem?_eq_some_iff.1 this).1]
      · exact this
end
section
variable {C : Cfg} {N : Nat} {ops : Array Oper} {Q : Exit → Act → World → Prop} {Γ : Gam}
theorem int_unique {k : IntKind} {e : Lin} {v : Value} (h : VR Γ (.int k e) v) : v = .int k (e.den Γ.ρ) := by
  cases h with
  | int q => rw [q]
/-- What one of them yields, whatever the world. -/
theorem late_yields (hV : C.V.Ok Γ.ρ) (hg : GL C Γ) {T T' : Tr AV} {a : Act} {i : Nat} {o : Oper} {r : List Nat} (hT : TR Γ N T a.tmps) (ho : ops[i]? = some o) (hp : plainOp o = true) (h : lateRun C N ops.toList T (i :: r) = some T') :
    ∃ v T1, Yields C.P ops o v a ∧ TR Γ N T1 (a.put o.dst v).tmps ∧ lateRun C N ops.toList T1 r = some T' := by
  have hgu : o.guard = none := by
    unfold plainOp at hp
    split at hp
    · assumption
    · cases hp
  have hw : Region.wanted o (yielded ops a.tmps) = true := by unfold Region.wanted; rw [hgu]
  unfold lateRun at h
  rw [nth_eq] at h
  rw [show ops.toList[i]? = some o by simpa using ho] at h
  dsimp only at h
  split at h
  · rename_i x hop
    split at h
    · rename_i T1 hput
      exact ⟨a.eval x, T1, .inl ⟨hw, fun w => by unfold execOp; rw [hop]; rfl⟩, (putT_ok hT (val_ok hg hT x) hput).1, h⟩
    · cases h
  · rename_i x hop
    split at h
    · rename_i T1 hput
      exact ⟨a.eval x, T1, .inl ⟨hw, fun w => by unfold execOp; rw [hop]; rfl⟩, (putT_ok hT (val_ok hg hT x) hput).1, h⟩
    · cases h
  · rename_i op t x y u hop
    split at h
    · rename_i k e he
      split at h
      · rename_i T1 hput
        refine ⟨.int k (e.den Γ.ρ), T1, .inl ⟨hw, fun w => ?_⟩, (putT_ok hT (.int rfl) hput).1, h⟩
        unfold execOp
        rw [hop]
        dsimp only
        obtain ⟨v, h1, h2⟩ := evBin2_says (w := w) (xo := x) (yo := y) hV (val_ok hg hT x) (val_ok hg hT y) he
        rw [int_unique h2] at h1
        simp only [Sem.run_bind, h1, Result.andThen_ok, Sem.run_pure]
      · cases h
    · cases h
  · cases h
theorem late_go (hV : C.V.Ok Γ.ρ) (hg : GL C Γ) (hN : ∀ e a w, e ≠ .normal → ¬ Q e a w) (hsel : noSel ops.toList = true) {st : Nat} {K0 : List Nat} (hst : st ∉ K0) :
    ∀ (K done : List Nat) (T T' : Tr AV) (f : Nat) (listed : Array Bool) (a : Act) (w : World), okK ops.toList done K = true → lateRun C N ops.toList T K = some T' → TR Γ N T a.tmps → listed.size = ops.size → (∀ i, Lst listed i ↔ i ∈ done) →
      (∀ i ∈ K0, i ∈ done ∨ i ∈ K) → (∀ i ∈ K, i ∈ K0) → wpAny C.P .any (fixL st K0 ops.toList).toArray Q f listed a w → wpAny C.P .any ops Q f listed a w
  | [], done, T, T', f, listed, a, w, hk, hr, hT, hs, hl, hK, hK2, h => late_same f listed a w hs (fun i hi => (hl i).2 ((hK i hi).resolve_right (by simp))) h
  | i :: r, done, T, T', f, listed, a, w, hk, hr, hT, hs, hl, hK, hK2, h => by
    unfold okK at hk
    rw [nth_eq] at hk
    split at hk
    · cases hk
    rename_i o ho'
    have ho : ops[i]? = some o := by simpa using ho'
    cases hp : plainOp o with
    | false => rw [hp] at hk; cases hk
    | true =>
    rw [hp] at hk
    cases hin : inE done o.after.toList with
    | false => rw [hin] at hk; cases hk
    | true =>
    rw [hin] at hk
    cases hm : memL i done with
    | true => rw [hm] at hk; cases hk
    | false =>
    rw [hm] at hk
    cases hap : allIx (fun j oj => bif Nat.beq j i then true else bif memL j done then true else bif onE i oj.after.toList then true else o.apart ops.toList.toArray oj) 0 ops.toList with
    | false => rw [hap] at hk; cases hk
    | true =>
    rw [hap] at hk
    simp only [cond_true, cond_false] at hk
    have hdone : i ∉ done := fun x => by rw [memL_iff.2 x] at hm; cases hm
    have hne : i ≠ st := fun e => hst (e ▸ hK2 i List.mem_cons_self)
    have hilt : i < ops.size := (Array.getElem?_eq_some_iff.1 ho).1
    obtain ⟨v, T1, hy, hT1, hr1⟩ := late_yields hV hg hT ho hp hr
    have hsz : (fixL st K0 ops.toList).toArray.size = ops.size := by simp [fixL_len]
    have hnl : ¬ Lst listed i := fun x => hdone ((hl i).1 x)
    have hedge : ∀ e ∈ o.after.toList, Region.binds .any e = true → Lst listed e.on := fun e he hb => (hl _).2 (inE_of hin e he hb)
    have hrd : i ∈ Region.ready .any ops listed := (ready_iff hs i).2 ⟨o, ho, hnl, hedge⟩
    have hrd' : i ∈ Region.ready .any (fixL st K0 ops.toList).toArray listed := (ready_iff (by rw [hs, hsz]) i).2 ⟨o, by rw [arr_get, if_neg hne]; exact ho, hnl, hedge⟩
    cases f with
    | zero => exfalso; rw [h.1] at hrd'; cases hrd'
    | succ f =>
      have h1 := wpOp_fix (h.2 i hrd')
      have h2 : wpAny C.P .any (fixL st K0 ops.toList).toArray Q f (listed.setIfInBounds i true) (a.put o.dst v) w := by
        unfold wpOp at h1
        rw [ho] at h1
        simp only at h1
        rcases hy with ⟨hw, hv⟩ | ⟨hw, rfl⟩
        · rw [if_pos hw] at h1
          rcases h1 with h1 | ⟨_, a', w', h1⟩
          · unfold Oper.wp at h1
            rw [hv w] at h1
            exact h1
          · exact absurd h1 (hN _ _ _ (by intro e; cases e))
        · rw [if_neg (by rw [hw]; simp)] at h1
          exact h1
      have h3 := late_go hV hg hN hsel hst r (i :: done) T1 T' f (listed.setIfInBounds i true) (a.put o.dst v) w hk hr1 hT1 (by simp [hs]) (fun j => by
        unfold Lst
        rw [Array.getElem?_setIfInBounds]
        have := hl j
        unfold Lst at this
        by_cases e : i = j
        · subst e; simp [hs, hilt]
        · rw [if_neg e, this]
          constructor
          · exact List.mem_cons_of_mem _
          · intro x
            rcases List.mem_cons.1 x with rfl | x
            · exact absurd rfl e
            · exact x) (fun j hj => by
        rcases hK j hj with x | x
        · exact .inl (List.mem_cons_of_mem _ x)
        · rcases List.mem_cons.1 x with rfl | x
          · exact .inl List.mem_cons_self
          · exact .inr x) (fun j hj => hK2 j (List.mem_cons_of_mem _ hj)) h2
      refine wpAny_first ho (fun j oj cs b hj => noSel_of hsel oj (List.mem_of_getElem? (show ops.toList[j]? = some oj by simpa using hj)) cs b) (fun c a w x => absurd x (hN _ _ _ (by intro e; cases e))) f listed a w (fun j oj hj hji hul hnb => ?_) hrd hy h3
      have c := allIx_at ops.toList 0 j oj hap (by simpa using hj)
      rw [Nat.zero_add] at c
      have b1 : Nat.beq j i = false := by
        cases hb : Nat.beq j i with
        | false => rfl
        | true => exact absurd (Nat.eq_of_beq_eq_true hb) hji
      have b2 : memL j done = false := by
        cases hb : memL j done with
        | false => rfl
        | true =>
          have := (hl j).2 (memL_iff.1 hb)
          unfold Lst at this
          rw [Array.getD_eq_getD_getElem?, this] at hul
          cases hul
      have b3 : onE i oj.after.toList = false := by
        cases hb : onE i oj.after.toList with
        | false => rfl
        | true =>
          obtain ⟨e, he, hb1, hb2⟩ := onE_of hb
          exact absurd hb2 (hnb e (by simpa using he) hb1)
      rw [b1, b2, b3] at c
      simpa using c
end
theorem missing_lt {m : Nat} : ∀ {n i : Nat}, i ∈ missing m n → i < n
  | 0, i, h => by cases h
  | n + 1, i, h => by
    unfold missing at h
    rcases List.mem_append.1 h with h | h
    · have := missing_lt h; omega
    · cases hb : m.testBit n with
      | true => rw [hb] at h; cases h
      | false =>
        rw [hb] at h
        have : i = n := by simpa using h
        omega
theorem lateAt_eq {all : List Oper} {ms : List Nat} {st0 st : Nat} {K : List Nat} (h : lateAt all ms st0 = some (st, K)) : okK all [] K = true ∧ noSel all = true ∧ st ∉ K := by
  unfold lateAt at h
  split at h
  · cases h
  split at h
  · cases h
  split at h
  · cases h
  split at h
  · cases h
  rename_i m _ i r hm
  cases h1 : okK all [] (i :: r) with
  | false => rw [h1] at h; cases h
  | true =>
    rw [h1] at h
    cases h2 : noSel all with
    | false => rw [h2] at h; cases h
    | true =>
      rw [h2] at h
      simp only [cond_true] at h
      obtain ⟨rfl, rfl⟩ := Prod.mk.inj (Option.some.inj h)
      refine ⟨h1, rfl, fun hx => ?_⟩
      rw [← hm] at hx
      have := missing_lt hx
      omega
theorem drawR0_up {call : CallFn} (hu : CallUp call) {C : Cfg} {N : Nat} {all : List Oper} {s s' : St} (h : drawR0 call C N all s = some s') : s.A.next ≤ s'.A.next := by
  unfold drawR0 at h
  split at h
  · split at h
    · exact drawRegion_up hu h
    · cases h
  · exact drawRegion_up hu h
theorem drawR0_wp {C : Cfg} {ρ : Nat → Int} {W : World} {call : CallFn} {N : Nat} {ops : Array Oper} (hC : C.Ok ρ W) (hcall : CallOk C ρ W call) (hu : CallUp call) {Q : Exit → Act → World → Prop} (hN : ∀ e a w, e ≠ .normal → ¬ Q e a w) {s s' : St} (h : drawR0 call C N ops.toList s = some s') {Γ : Gam} {a : Act} {w : World} (hfit : Fits C ρ W Γ) (hi : Is Γ N s a w) (hf : Free Γ s.A.next s'.A.next)
    (hQ : ∀ a' w' Γ', Is Γ' N s' a' w' → Adv Γ s.A w Γ' s'.A w' → Q .normal a' w') : wpAny C.P .any ops Q ops.size (Array.replicate ops.size false) a w := by
  unfold drawR0 at h
  split at h
  · rename_i st K hl
    obtain ⟨k1, k2, k3⟩ := lateAt_eq hl
    split at h
    · rename_i T' hT'
      have hsz : (fixL st K ops.toList).toArray.size = ops.size := by simp [fixL_len]
      have g := drawRegion_wp (ops := (fixL st K ops.toList).toArray) hC hcall hu (Q := Q) (by simpa using h) hfit hi hf hQ
      rw [hsz] at g
      refine late_go (by rw [hfit.ρ]; exact hC.env) hfit.gl hN k2 k3 K [] s.T T' ops.size _ a w k1 hT' hi.T (by simp) (fun i => ?_) (fun i hi => .inr hi) (fun i hi => hi) g
      unfold Lst
      rw [Array.getElem?_replicate]
      constructor
      · intro x; split at x <;> cases x
      · intro x; cases x
    · cases h
  · exact drawRegion_wp hC hcall hu h hfit hi hf hQ
def sw (i j : Nat) : Nat := bif Nat.beq j i then i + 1 else bif Nat.beq j (i + 1) then i else j
theorem sw_eq (i j : Nat) : sw i j = if j = i then i + 1 else if j = i + 1 then i else j := by
  have hb : ∀ a b : Nat, Nat.beq a b = decide (a = b) := fun a b => by
    cases h : Nat.beq a b with
    | true => have := Nat.eq_of_beq_eq_true h; simp [this]
    | false => have : a ≠ b := fun e => by subst e; simp at h
               simp [this]
  unfold sw
  rw [hb, hb]
  by_cases h1 : j = i <;> by_cases h2 : j = i + 1 <;> simp [h1, h2]
theorem sw_sw (i j : Nat) : sw i (sw i j) = j := by
  rw [sw_eq, sw_eq]
  split <;> split <;> (try split) <;> omega
def renE (i : Nat) (e : Edge) : Edge := { e with on := sw i e.on }
def renO (i : Nat) (o : Oper) : Oper := { o with after := (o.after.toList.map (renE i)).toArray, guard := match o.guard with | some (g, b) => some (sw i g, b) | none => none }
def swp : Nat → List Oper → List Oper
  | 0, a :: b :: r => b :: a :: r
  | n + 1, a :: r => a :: swp n r
  | _, l => l
theorem swp_len : ∀ (n : Nat) (l : List Oper), (swp n l).length = l.length
  | 0, [] => rfl
  | 0, [a] => rfl
  | 0, a :: b :: r => rfl
  | n + 1, [] => rfl
  | n + 1, a :: r => by simp [swp, swp_len n r]
theorem swp_get : ∀ (n : Nat) (l : List Oper) (j : Nat), n + 1 < l.length → (swp n l)[j]? = l[sw n j]?
  | 0, a :: b :: r, j, h => by
    rw [sw_eq]
    match j with
    | 0 => rfl
    | 1 => rfl
    | j + 2 => simp [swp]
  | n + 1, a :: r, j, h => by
    match j with
    | 0 =>
      rw [sw_eq]
      simp [swp]
    | j + 1 =>
      have := swp_get n r j (by simpa using h)
      rw [sw_eq] at this
      rw [sw_eq]
      simp only [swp, List.getElem?_cons_succ, this]
      by_cases h1 : j = n
      · subst h1; simp
      · by_cases h2 : j = n + 1
        · subst h2; simp
        · simp [h1, h2]
def swapL (i : Nat) (all : List Oper) : List Oper := (swp i all).map (renO i)
/-- A plain one behind a store that it does not wait for. -/
def swapOf (all : List Oper) : Option Nat := match tailK 0 (masks [] all) with
  | k + 2 => match nth all k, nth all (k + 1) with
    | some a, some b => bif isStore a && (plainOp b && !(onE k b.after.toList)) then some k else none
    | _, _ => none
  | _ => none
def pre (all : List Oper) : List Oper := match swapOf all with
  | some i => bif Nat.blt (i + 1) all.length then swapL i all else all
  | none => all
def drawR (call : CallFn) (C : Cfg) (N : Nat) (all : List Oper) (s : St) : Option St := drawR0 call C N (pre all) s
section
variable {P : Program} {ops : Array Oper} {Q : Exit → Act → World → Prop}
theorem swap_get {i : Nat} (hi : i + 1 < ops.size) (j : Nat) : (swapL i ops.toList).toArray[sw i j]? = (ops[j]?).map (renO i) := by
  unfold swapL
  have := swp_get i ops.toList (sw i j) (by simpa using hi)
  rw [sw_sw] at this
  simp only [List.getElem?_toArray, List.getElem?_map, this]
  simp
theorem exec_ren {i : Nat} {o : Oper} (ρ : Operand → Value) : execOp ρ (renO i o) = execOp ρ o := by
  cases o
  rfl
theorem yielded_swap {i : Nat} (hi : i + 1 < ops.size) (tmps : Array Value) (g : Nat) : yielded (swapL i ops.toList).toArray tmps (sw i g) = yielded ops tmps g := by
  unfold yielded
  have e : ((swapL i ops.toList).toArray[sw i g]?).bind (·.dst) = (ops[g]?).bind (·.dst) := by
    rw [swap_get hi]
    cases ops[g]? <;> rfl
  rw [e]
theorem wanted_swap {i : Nat} (hi : i + 1 < ops.size) (tmps : Array Value) (o : Oper) : Region.wanted (renO i o) (yielded (swapL i ops.toList).toArray tmps) = Region.wanted o (yielded ops tmps) := by
  unfold Region.wanted
  cases hg : o.guard with
  | none => simp [renO, hg]
  | some p =>
    obtain ⟨g, b⟩ := p
    simp only [renO, hg]
    rw [yielded_swap hi]
theorem wpOp_swap {i j : Nat} (hi : i + 1 < ops.size) {F : Act → World → Prop} {a : Act} {w : World} (h : wpOp P (swapL i ops.toList).toArray Q (sw i j) F a w) : wpOp P ops Q j F a w := by
  unfold wpOp at h ⊢
  rw [swap_get hi] at h
  cases ho : ops[j]? with
  | none => rw [ho] at h; exact h
  | some o =>
    rw [ho] at h
    simp only [Option.map_some] at h
    rw [wanted_swap hi] at h
    unfold Oper.wp Oper.asks at h ⊢
    rw [exec_ren] at h
    exact h
theorem swap_wp {i : Nat} (hi : i + 1 < ops.size) : ∀ (f : Nat) (listed listed' : Array Bool) (a : Act) (w : World), listed.size = ops.size → listed'.size = ops.size → (∀ j, Lst listed' (sw i j) ↔ Lst listed j) → wpAny P .any (swapL i ops.toList).toArray Q f listed' a w → wpAny P .any ops Q f listed a w := by
  have hsz : (swapL i ops.toList).toArray.size = ops.size := by simp [swapL, swp_len]
  have hready : ∀ (listed listed' : Array Bool), listed.size = ops.size → listed'.size = ops.size → (∀ j, Lst listed' (sw i j) ↔ Lst listed j) → ∀ j, j ∈ Region.ready .any ops listed ↔ sw i j ∈ Region.ready .any (swapL i ops.toList).toArray listed' := by
    intro listed listed' hs hs' hl j
    rw [ready_iff hs, ready_iff (by rw [hs', hsz]), swap_get hi]
    constructor
    · rintro ⟨o, ho, hu, he⟩
      refine ⟨renO i o, by rw [ho]; rfl, fun x => hu ((hl j).1 x), fun e' he' hb => ?_⟩
      obtain ⟨e, hem, rfl⟩ := List.mem_map.1 (show e' ∈ o.after.toList.map (renE i) from he')
      exact (hl e.on).2 (he e hem hb)
    · rintro ⟨o', ho', hu, he⟩
      cases ho : ops[j]? with
      | none => rw [ho] at ho'; cases ho'
      | some o =>
        rw [ho] at ho'
        obtain rfl := Option.some.inj ho'
        refine ⟨o, rfl, fun x => hu ((hl j).2 x), fun e hem hb => (hl e.on).1 (he (renE i e) (List.mem_map.2 ⟨e, hem, rfl⟩) hb)⟩
  intro f
  induction f with
  | zero =>
    intro listed listed' a w hs hs' hl h
    refine ⟨?_, h.2⟩
    cases hr : Region.ready .any ops listed with
    | nil => rfl
    | cons j r =>
      have := (hready listed listed' hs hs' hl j).1 (by rw [hr]; exact List.mem_cons_self)
      rw [h.1] at this
      cases this
  | succ f ih =>
    intro listed listed' a w hs hs' hl h
    refine ⟨fun hr => h.1 ?_, fun j hj => ?_⟩
    · cases hr' : Region.ready .any (swapL i ops.toList).toArray listed' with
      | nil => rfl
      | cons j r =>
        have := (hready listed listed' hs hs' hl (sw i j)).2 (by rw [sw_sw, hr']; exact List.mem_cons_self)
        rw [hr] at this
        cases this
    · have hj' := (hready listed listed' hs hs' hl j).1 hj
      have hjlt : j < ops.size := by
        obtain ⟨o, ho, _⟩ := (ready_iff hs j).1 hj
        exact (Array.getElem?_eq_some_iff.1 ho).1
      have hjlt' : sw i j < ops.size := by
        obtain ⟨o, ho, _⟩ := (ready_iff (by rw [hs', hsz]) (sw i j)).1 hj'
        have := (Array.getElem?_eq_some_iff.1 ho).1
        rwa [hsz] at this
      refine wpOp_mono (fun a w hh => ?_) (wpOp_swap hi (h.2 _ hj'))
      refine ih _ _ a w (by simp [hs]) (by simp [hs']) (fun m => ?_) hh
      have := hl m
      unfold Lst at this ⊢
      rw [Array.getElem?_setIfInBounds, Array.getElem?_setIfInBounds]
      by_cases e : j = m
      · subst e
        simp [hs, hs', hjlt, hjlt']
      · have e2 : ¬ sw i j = sw i m := fun x => e (by have := congrArg (sw i) x; rwa [sw_sw, sw_sw] at this)
        rw [if_neg e, if_neg e2]
        exact this
end
theorem drawR_up {call : CallFn} (hu : CallUp call) {C : Cfg} {N : Nat} {all : List Oper} {s s' : St} (h : drawR call C N all s = some s') : s.A.next ≤ s'.A.next := drawR0_up hu h
theorem drawR_wp {C : Cfg} {ρ : Nat → Int} {W : World} {call : CallFn} {N : Nat} {ops : Array Oper} (hC : C.Ok ρ W) (hcall : CallOk C ρ W call) (hu : CallUp call) {Q : Exit → Act → World → Prop} (hN : ∀ e a w, e ≠ .normal → ¬ Q e a w) {s s' : St} (h : drawR call C N ops.toList s = some s') {Γ : Gam} {a : Act} {w : World} (hfit : Fits C ρ W Γ) (hi : Is Γ N s a w) (hf : Free Γ s.A.next s'.A.next)
    (hQ : ∀ a' w' Γ', Is Γ' N s' a' w' → Adv Γ s.A w Γ' s'.A w' → Q .normal a' w') : wpAny C.P .any ops Q ops.size (Array.replicate ops.size false) a w := by
  unfold drawR pre at h
  split at h
  · rename_i i hs
    cases hb : Nat.blt (i + 1) ops.toList.length with
    | false => rw [hb] at h; exact drawR0_wp hC hcall hu hN h hfit hi hf hQ
    | true =>
      rw [hb] at h
      have hlt : i + 1 < ops.size := by
        have := Nat.le_of_ble_eq_true hb
        rw [Array.length_toList] at this
        omega
      have hsz : (swapL i ops.toList).toArray.size = ops.size := by simp [swapL, swp_len]
      have g := drawR0_wp (ops := (swapL i ops.toList).toArray) hC hcall hu hN (by simpa using h) hfit hi hf hQ
      rw [hsz] at g
      refine swap_wp hlt ops.size _ _ a w (by simp) (by simp) (fun j => ?_) g
      unfold Lst
      simp only [Array.getElem?_replicate]
      constructor <;> intro x <;> split at x <;> cases x
  · exact drawR0_wp hC hcall hu hN h hfit hi hf hQ
end
end Go.Proofs.YtnikgcedifdaeaaGreatDoor.Ab
end

section
/- A whole function, run on what is known: what it says of every true run. Plain. -/
namespace Go.Proofs.YtnikgcedifdaeaaGreatDoor.Ab
open Go
noncomputable section
inductive Out where
  | normal
  | exit (id : Nat)
  | ret
def sc0 : AV → Bool
  | .any | .one | .tok _ | .bool _ | .int _ _ | .str _ | .nilptr | .nilslice | .nilmap | .nilFunc | .nilIface => true
  | _ => false
def all0 : List AV → Bool
  | [] => true
  | a :: r => bif sc0 a then all0 r else false
def sc1 : AV → Bool
  | .agg l => all0 l
  | a => sc0 a
def all1 : List AV → Bool
  | [] => true
  | a :: r => bif sc1 a then all1 r else false
def scalar : AV → Bool
  | .tuple l => all1 l
  | a => sc1 a
section
variable {Γ Γ' : Gam}
theorem sc0_ok (hρ : Γ.ρ = Γ'.ρ) {a : AV} {v : Value} (h : sc0 a = true) (hv : VR Γ' a v) : VR Γ a v := by
  cases hv with
  | any => exact .any
  | one h => exact .one h
  | @tok i s e => exact .tok (by rw [hρ]; exact e)
  | bool => exact .bool
  | int e => exact .int (by rw [hρ]; exact e)
  | str e => exact .str e
  | nilptr => exact .nilptr
  | nilslice => exact .nilslice
  | nilmap => exact .nilmap
  | nilFunc => exact .nilFunc
  | nilIface => exact .nilIface
  | _ => cases h
theorem all0_ok (hρ : Γ.ρ = Γ'.ρ) : ∀ {l : List AV} {m : List Value}, all0 l = true → VRs Γ' l m → VRs Γ l m
  | [], m, _, h => by rw [h.nil_of]; exact .nil
  | a :: r, m, e, h => by
    obtain ⟨x, t, rfl, h1, h2⟩ := h.head
    unfold all0 at e
    cases ha : sc0 a with
    | false => rw [ha] at e; cases e
    | true => rw [ha] at e; exact .cons (sc0_ok hρ ha h1) (all0_ok hρ e h2)
theorem sc1_ok (hρ : Γ.ρ = Γ'.ρ) {a : AV} {v : Value} (h : sc1 a = true) (hv : VR Γ' a v) : VR Γ a v := by
  unfold sc1 at h
  split at h
  · obtain ⟨m, rfl, hm⟩ := hv.of_agg
    exact .agg' (all0_ok hρ h hm)
  · exact sc0_ok hρ h hv
theorem all1_ok (hρ : Γ.ρ = Γ'.ρ) : ∀ {l : List AV} {m : List Value}, all1 l = true → VRs Γ' l m → VRs Γ l m
  | [], m, _, h => by rw [h.nil_of]; exact .nil
  | a :: r, m, e, h => by
    obtain ⟨x, t, rfl, h1, h2⟩ := h.head
    unfold all1 at e
    cases ha : sc1 a with
    | false => rw [ha] at e; cases e
    | true => rw [ha] at e; exact .cons (sc1_ok hρ ha h1) (all1_ok hρ e h2)
theorem scalar_ok (hρ : Γ.ρ = Γ'.ρ) {a : AV} {v : Value} (h : scalar a = true) (hv : VR Γ' a v) : VR Γ a v := by
  unfold scalar at h
  split at h
  · obtain ⟨m, rfl, hm⟩ := hv.of_tuple
    exact .tuple' (all1_ok hρ h hm)
  · exact sc1_ok hρ h hv
/-- What was known under few names, and is known under more, is known under the few. -/
theorem VR.back (hl : Γ.Le Γ') {a : AV} {u : Value} (h : VR Γ a u) : ∀ {v : Value}, VR Γ' a v → VR Γ a v := by
  have one : ∀ {b c s c' s'}, Γ.β b = some (c, s) → Γ'.β b = some (c', s') → Γ.β b = some (c', s') := fun h1 h2 => by
    have := hl.β _ _ h1
    rw [h2] at this
    rw [h1, this]
  induction h with
  | any => intro v _; exact .any
  | bool => intro v hv; cases hv; exact .bool
  | int e => intro v hv; cases hv with | int e' => exact .int (by rw [← hl.ρ]; exact e')
  | str e => intro v hv; cases hv with | str e' => exact .str e'
  | nilptr => intro v hv; cases hv; exact .nilptr
  | ptr h => intro v hv; cases hv with | ptr h' => exact .ptr (one h h')
  | nilslice => intro v hv; cases hv; exact .nilslice
  | slice h e => intro v hv; cases hv with | slice h' e' => exact .slice (one h h') e'
  | nilmap => intro v hv; cases hv; exact .nilmap
  | map h => intro v hv; cases hv with | map h' => exact .map (one h h')
  | chan h => intro v hv; cases hv with | chan h' => exact .chan (one h h')
  | @func fn l1 l2 m1 m2 h1 _ h3 _ ih1 ih2 =>
    intro v hv
    cases hv with
    | func k1 k2 k3 k4 =>
      refine .func k1 (fun i a x e1 e2 => ?_) k3 fun i a x e1 e2 => ?_
      · have hlt : i < m1.size := by have := (List.getElem?_eq_some_iff.1 e1).1; omega
        exact ih1 i a _ e1 (Array.getElem?_eq_getElem hlt) (k2 i a x e1 e2)
      · have hlt : i < m2.size := by have := (List.getElem?_eq_some_iff.1 e1).1; omega
        exact ih2 i a _ e1 (Array.getElem?_eq_getElem hlt) (k4 i a x e1 e2)
  | nilFunc => intro v hv; cases hv; exact .nilFunc
  | iface _ ih => intro v hv; cases hv with | iface h' => exact .iface (ih h')
  | nilIface => intro v hv; cases hv; exact .nilIface
  | @agg l m h1 _ ih =>
    intro v hv
    cases hv with
    | agg k1 k2 =>
      refine .agg k1 fun i a x e1 e2 => ?_
      have hlt : i < m.size := by have := (List.getElem?_eq_some_iff.1 e1).1; omega
      exact ih i a _ e1 (Array.getElem?_eq_getElem hlt) (k2 i a x e1 e2)
  | @tuple l m h1 _ ih =>
    intro v hv
    cases hv with
    | tuple k1 k2 =>
      refine .tuple k1 fun i a x e1 e2 => ?_
      have hlt : i < m.size := by have := (List.getElem?_eq_some_iff.1 e1).1; omega
      exact ih i a _ e1 (Array.getElem?_eq_getElem hlt) (k2 i a x e1 e2)
  | emp => intro v hv; cases hv; exact .emp
  | one h => intro v hv; cases hv with | one h' => exact .one h'
  | tok h => intro v hv; cases hv with | tok h' => exact .tok (by rw [← hl.ρ]; exact h')
theorem VRs.back (hl : Γ.Le Γ') {l : List AV} {m m' : List Value} (h : VRs Γ l m) (k : VRs Γ' l m') : VRs Γ l m' :=
  ⟨k.len, fun i a v e1 e2 => by obtain ⟨u, _, hu⟩ := h.get e1; exact hu.back hl (k.at_ i a v e1 e2)⟩
theorem OR.back (hl : Γ.Le Γ') {o : AO} {s : Nat} {x y : Option Obj} (h : OR Γ o s x) (k : OR Γ' o s y) : OR Γ o s y := by
  cases o with
  | cells cs e sz rw =>
    obtain ⟨c, fz, h1, h2, h3, h4⟩ := h
    obtain ⟨c', fz', k1, k2, k3, k4⟩ := k
    exact ⟨c', fz', k1, k2, k3, h4.back hl k4⟩
  | map es rw =>
    obtain ⟨m, ck, h1, h2, h3⟩ := h
    obtain ⟨m', ck', k1, k2, k3⟩ := k
    refine ⟨m', ck', k1, k2, fun i e z e1 e2 => ?_⟩
    have hlt : i < m.size := by have := (List.getElem?_eq_some_iff.1 e1).1; omega
    have := h3 i e _ e1 (Array.getElem?_eq_getElem hlt)
    exact ⟨this.1.back hl (k3 i e z e1 e2).1, this.2.back hl (k3 i e z e1 e2).2⟩
  | opaq => trivial
end
def resOne (P : Program) (s : St) (x : ResultVar) : Option AV := match x with
  | .tmp t => s.T.get t
  | .cell p ty => match s.T.get p with
    | some a => evLoad P s.A ty a
    | none => none
def resAll (P : Program) (s : St) : List ResultVar → Option (List AV)
  | [] => some []
  | x :: r => match resOne P s x with
    | some a => match resAll P s r with
      | some l => some (a :: l)
      | none => none
    | none => none
def resA (P : Program) (s : St) (l : List ResultVar) : Option AV := match resAll P s l with
  | some [a] => some a
  | some l => some (.tuple l)
  | none => none
def resSem (a : Act) : ResultVar → Sem Value
  | .tmp t => Pure.pure (a.tmps.getD t undef)
  | .cell b t => do loadVar t (← asAddr (a.tmps.getD b undef))
theorem results_eq (fn : Func) (a : Act) : results fn a.tmps = (do let vs ← fn.results.mapM (resSem a); Pure.pure (if h : vs.size = 1 then vs[0] else .tuple vs)) := by
  unfold results
  congr 2
theorem resOne_says {P : Program} {Γ : Gam} {N : Nat} {s : St} {a : Act} {w : World} (hi : Is Γ N s a w) {x : ResultVar} {r : AV} (h : resOne P s x = some r) :
    Says P Γ w (resSem a x) r := by
  cases x with
  | tmp t =>
    obtain ⟨v, h1, h2⟩ := hi.T.at_ t r h
    exact ⟨v, by simp [resSem, Array.getD_eq_getD_getElem?, h1], h2⟩
  | cell p ty =>
    unfold resOne at h
    dsimp only at h
    split at h
    · rename_i b hb
      obtain ⟨v, h1, h2⟩ := hi.T.at_ _ _ hb
      obtain ⟨u, g1, g2⟩ := evLoad_says (P := P) hi.A h2 h
      refine ⟨u, ?_, g2⟩
      have e : a.tmps.getD p undef = v := by rw [Array.getD_eq_getD_getElem?, h1]; rfl
      unfold resSem
      simp only [e]
      have hp : ∃ ad, v = .pointer (some ad) := by
        unfold evLoad at h
        split at h
        · cases h2; exact ⟨_, rfl⟩
        · cases h
      obtain ⟨ad, rfl⟩ := hp
      simpa only [Instr.loadAt, Instr.sureAddr, asAddr, Sem.run_bind, Sem.run_pure] using g1
    · cases h
theorem resAll_says {P : Program} {Γ : Gam} {N : Nat} {s : St} {a : Act} {w : World} (hi : Is Γ N s a w) : ∀ (l : List ResultVar) (m : List AV), resAll P s l = some m →
    ∃ vs, (l.mapM (resSem a)).run P w = .ok vs w ∧ VRs Γ m vs
  | [], m, h => by obtain rfl := Option.some.inj h; exact ⟨[], rfl, .nil⟩
  | x :: r, m, h => by
    unfold resAll at h
    split at h
    · rename_i b hb
      split at h
      · rename_i l hl
        obtain rfl := Option.some.inj h
        obtain ⟨v, h1, h2⟩ := resOne_says (P := P) hi hb
        obtain ⟨vs, g1, g2⟩ := resAll_says hi r l hl
        refine ⟨v :: vs, ?_, .cons h2 g2⟩
        rw [List.mapM_cons]
        simp only [Sem.run_bind, h1, Result.andThen_ok, g1, Sem.run_pure]
      · cases h
    · cases h
theorem resA_says {P : Program} {Γ : Gam} {N : Nat} {s : St} {a : Act} {w : World} (hi : Is Γ N s a w) {fn : Func} {r : AV} (h : resA P s fn.results.toList = some r) : Says P Γ w (results fn a.tmps) r := by
  unfold resA at h
  have main : ∀ m, resAll P s fn.results.toList = some m → ∃ vs : List Value, (fn.results.mapM (resSem a)).run P w = .ok vs.toArray w ∧ VRs Γ m vs := by
    intro m hm
    obtain ⟨vs, h1, h2⟩ := resAll_says hi _ _ hm
    refine ⟨vs, ?_, h2⟩
    rw [Array.mapM_eq_mapM_toList]
    simp only [Sem.run_map, h1, Result.andThen_ok]
  have fin : ∀ (vs : List Value), (fn.results.mapM (resSem a)).run P w = .ok vs.toArray w →
      (results fn a.tmps).run P w = .ok (if h : vs.toArray.size = 1 then vs.toArray[0] else .tuple vs.toArray) w := by
    intro vs hv
    rw [results_eq]
    simp only [Sem.run_bind, hv, Result.andThen_ok, Sem.run_pure]
  split at h
  · rename_i b hb
    obtain rfl := Option.some.inj h
    obtain ⟨vs, h1, h2⟩ := main _ hb
    obtain ⟨v, t, rfl, h3, h4⟩ := h2.head
    obtain rfl := h4.nil_of
    exact ⟨v, by rw [fin _ h1]; rfl, h3⟩
  · rename_i l hb hl
    obtain rfl := Option.some.inj h
    obtain ⟨vs, h1, h2⟩ := main _ hl
    refine ⟨.tuple vs.toArray, ?_, .tuple' h2⟩
    rw [fin _ h1, dif_neg]
    intro e
    have e : vs.length = 1 := by simpa using e
    have : l.length = 1 := by rw [h2.len, e]
    match l, this with
    | [x], _ => exact hb x rfl
  · cases h
def initT : Nat → List AV → Tr AV → Tr AV
  | _, [], T => T
  | k, a :: r, T => initT (k + 1) r (T.set a 12 k)
theorem initT_get : ∀ (l : List AV) (k : Nat) (T : Tr AV) (t : Nat) (x : AV), (initT k l T).get t = some x → (∃ i, t = k + i ∧ l[i]? = some x) ∨ T.get t = some x
  | [], k, T, t, x, h => .inr h
  | a :: r, k, T, t, x, h => by
    rcases initT_get r (k + 1) _ t x h with ⟨i, h1, h2⟩ | h
    · exact .inl ⟨i + 1, by omega, by simpa using h2⟩
    · rcases Tr.get_set 12 T k t h with ⟨rfl, rfl⟩ | ⟨_, h⟩
      · exact .inl ⟨0, rfl, rfl⟩
      · exact .inr h
abbrev RunFn := Nat → Code → St → Option (Out × St)
def ended : Out → Bool
  | .normal | .ret => true
  | .exit _ => false
def callA (rc : RunFn) (C : Cfg) (f : Nat) (l : List AV) (A : AH) : Option (AV × AH) := match C.O f l with
  | some r => some (r, A)
  | none => match C.L f l with
  | some x => match Nat.blt A.next lim with
    | true => some (x.av A.next, A.push (.cells x.cs x.elem x.sz true))
    | false => none
  | none => match C.F.get f with
    | some fn => match fn.body with
      | some c => match Nat.ble l.length fn.ntmps with
        | true => match rc fn.ntmps c ⟨initT 0 l .leaf, ⟨A.next, A.next, A.h⟩⟩ with
          | some (o, s) => match ended o with
            | true => match resA C.P s fn.results.toList with
              | some r => match (bif scalar r then Nat.ble A.next s.A.low else false) with
                | true => some (r, ⟨s.A.next, A.low, A.h⟩)
                | false => some (r, ⟨s.A.next, bif Nat.ble A.low s.A.low then A.low else s.A.low, s.A.h⟩)
              | none => none
            | false => none
          | none => none
        | false => none
      | none => none
    | none => none
def stepC (rc : RunFn) (C : Cfg) (N : Nat) (c : Code) (s : St) : Option (Out × St) := match c with
  | .skip => some (.normal, s)
  | .label _ => some (.normal, s)
  | .seq a b => match rc N a s with
    | some (.normal, s') => rc N b s'
    | x => x
  | .cond c a b => match val C s.T c with
    | .bool true => rc N a s
    | .bool false => rc N b s
    | _ => none
  | .block id b => match rc N b s with
    | some (.exit j, s') => match natIs j id with
      | true => some (.normal, s')
      | false => some (.exit j, s')
    | x => x
  | .loop b => match rc N b s with
    | some (.normal, s') => rc N (.loop b) s'
    | x => x
  | .exit id => some (.exit id, s)
  | .ret => some (.ret, s)
  | .region _ ops false => match ops1 (callA rc C) C N ops.toList ops.toList s with
    | some s' => some (.normal, s')
    | none => none
  | .region _ ops true => match drawR (callA rc C) C N ops.toList s with
    | some s' => some (.normal, s')
    | none => none
  | _ => none
/-- The run. -/
def run (C : Cfg) (n : Nat) : RunFn := Nat.rec (motive := fun _ => RunFn) (fun _ _ _ => none) (fun _ rc => stepC rc C) n
theorem run_succ (C : Cfg) (n : Nat) : run C (n + 1) = stepC (run C n) C := rfl
def RunUp (rc : RunFn) : Prop := ∀ N c s o s', rc N c s = some (o, s') → s.A.next ≤ s'.A.next
theorem callA_up {rc : RunFn} (hu : RunUp rc) {C : Cfg} : CallUp (callA rc C) := by
  intro f l A r A' h
  unfold callA at h
  split at h
  · cases h; exact Nat.le_refl _
  split at h
  · split at h
    · cases h; exact Nat.le_succ _
    · cases h
  · split at h
    · split at h
      · split at h
        · split at h
          · rename_i hr
            have := hu _ _ _ _ _ hr
            split at h
            · split at h
              · split at h <;> (cases h; exact this)
              · cases h
            · cases h
          · cases h
        · cases h
      · cases h
    · cases h
theorem stepC_up {rc : RunFn} (hu : RunUp rc) {C : Cfg} : RunUp (stepC rc C) := by
  intro N c s o s' h
  unfold stepC at h
  split at h
  · cases h; exact Nat.le_refl _
  · cases h; exact Nat.le_refl _
  · split at h
    · rename_i h1; exact Nat.le_trans (hu _ _ _ _ _ h1) (hu _ _ _ _ _ h)
    · exact hu _ _ _ _ _ h
  · split at h
    · exact hu _ _ _ _ _ h
    · exact hu _ _ _ _ _ h
    · cases h
  · split at h
    · rename_i h1
      have := hu _ _ _ _ _ h1
      split at h <;> (cases h; exact this)
    · exact hu _ _ _ _ _ h
  · split at h
    · rename_i h1; exact Nat.le_trans (hu _ _ _ _ _ h1) (hu _ _ _ _ _ h)
    · exact hu _ _ _ _ _ h
  · cases h; exact Nat.le_refl _
  · cases h; exact Nat.le_refl _
  · split at h
    · rename_i h1
      cases h
      exact ops1_up (callA_up hu) _ _ _ h1
    · cases h
  · split at h
    · rename_i h1
      cases h
      exact drawR_up (callA_up hu) h1
    · cases h
  · cases h
theorem run_up (C : Cfg) : ∀ n, RunUp (run C n)
  | 0 => fun N c s o s' h => by cases h
  | n + 1 => by rw [run_succ]; exact stepC_up (run_up C n)
end
end Go.Proofs.YtnikgcedifdaeaaGreatDoor.Ab
end

section
/- ████ What the run on what is known says, every true run does. ████ Plain. -/
namespace Go.Proofs.YtnikgcedifdaeaaGreatDoor.Ab
open Go
noncomputable section
def outExit : Out → Exit
  | .normal => .normal
  | .exit id => .exit id
  | .ret => .ret
def RunOk (C : Cfg) (ρ : Nat → Int) (W : World) (rc : RunFn) : Prop := ∀ N c s o s', rc N c s = some (o, s') → ∀ Γ a w, Fits C ρ W Γ → Is Γ N s a w → Free Γ s.A.next s'.A.next →
  c.wp C.P (fun e a' w' => e = outExit o ∧ ∃ Γ', Is Γ' N s' a' w' ∧ Adv Γ s.A w Γ' s'.A w') a w
theorem adv_same {Γ : Gam} {A : AH} {w w' : World} (h : HR Γ A w) (hs : Same w w') : Adv Γ A w Γ A w' := by
  refine ⟨.refl _, fun _ _ h => .inl h, Nat.le_refl _, ⟨fun b c s o h1 h2 => ?_, fun b c s h1 => Nat.lt_of_lt_of_le (h.lt b c s h1) hs.size, h.inj, h.own, fun c hc => ?_, Nat.le_trans h.size hs.size, hs.tape.trans h.tape, hs.os.trans h.os, hs.output.trans h.output, Nat.le_trans h.drawn hs.drawn, h.wf⟩,
    fun c hc _ => hs.heap c hc, fun _ _ h => h, hs.size, Nat.le_refl _, fun _ _ _ => rfl, fun b c s e e' => by rw [e'] at e; cases e⟩
  · rw [hs.heap c (h.lt b c s h1)]; exact h.at_ b c s o h1 h2
  · rw [hs.heap c (Nat.lt_of_lt_of_le hc h.size)]; exact h.old c hc
theorem adv_pure {Γ Γ' : Gam} {A A1 : AH} {w w' : World} (h : HR Γ A w) (k : Adv Γ ⟨A.next, A.next, A.h⟩ w Γ' A1 w') (hl : A.next ≤ A1.low) : Adv Γ A w Γ ⟨A1.next, A.low, A.h⟩ w' := by
  have same : ∀ b o, A.h.get b = some o → A1.h.get b = some o := fun b o hb => by
    have hlt := h.wf b o hb
    rw [k.low b (Nat.lt_of_lt_of_le hlt hl) hlt]; exact hb
  refine ⟨.refl _, fun _ _ h => .inl h, k.next, ⟨fun b c s o h1 h2 => ?_, fun b c s h1 => k.hr.lt b c s (k.le.β _ _ h1), h.inj, h.own, fun c hc => ?_, Nat.le_trans h.size k.size, k.hr.tape.trans (by rw [k.le.W]), k.hr.os.trans (by rw [k.le.W]), k.hr.output.trans (by rw [k.le.W]), ?_, fun b o hb => Nat.lt_of_lt_of_le (h.wf b o hb) k.next⟩,
    k.keep, fun _ _ h => h, k.size, Nat.le_refl _, fun _ _ _ => rfl, fun b c s e e' => by rw [e'] at e; cases e⟩
  · exact (h.at_ b c s o h1 h2).back k.le (k.hr.at_ b c s o (k.le.β _ _ h1) (same b o h2))
  · have := k.hr.old c (by rw [k.le.W]; exact hc)
    rw [k.le.W] at this
    exact this
  · have := k.hr.drawn
    rw [k.le.W] at this
    exact this
theorem adv_call {Γ Γ' : Gam} {A A1 : AH} {w w' : World} (k : Adv Γ ⟨A.next, A.next, A.h⟩ w Γ' A1 w') : Adv Γ A w Γ' ⟨A1.next, bif Nat.ble A.low A1.low then A.low else A1.low, A1.h⟩ w' := by
  have hm : (bif Nat.ble A.low A1.low then A.low else A1.low) ≤ A.low ∧ (bif Nat.ble A.low A1.low then A.low else A1.low) ≤ A1.low := by
    cases hb : Nat.ble A.low A1.low with
    | true => exact ⟨Nat.le_refl _, Nat.le_of_ble_eq_true hb⟩
    | false =>
      have : ¬ A.low ≤ A1.low := fun hh => by rw [Nat.ble_eq_true_of_le hh] at hb; cases hb
      simp only [cond_false]; omega
  exact ⟨k.le, k.dom, k.next, k.hr.low _, k.keep, k.own, k.size, hm.1, fun b h1 h2 => k.low b (Nat.lt_of_lt_of_le h1 hm.2) h2, k.fresh⟩
section
variable {C : Cfg} {ρ : Nat → Int} {W : World} {rc : RunFn}
theorem callA_ok (hC : C.Ok ρ W) (hrc : RunOk C ρ W rc) : CallOk C ρ W (callA rc C) := by
  intro f l A r A' h
  unfold callA at h
  split at h
  · rename_i r' ho
    obtain ⟨rfl, rfl⟩ := Prod.mk.inj (Option.some.inj h)
    obtain ⟨h1, h2⟩ := hC.orc f l r' ho
    refine ⟨h1, fun Γ w vs hfit hr hvs _ => Calls.mono (h2 Γ A w vs hfit.ρ hfit.W hr hvs) ?_⟩
    rintro e w' ⟨v, rfl, hv, hs⟩
    exact ⟨v, Γ, rfl, hv, adv_same hr hs⟩
  split at h
  · rename_i x hx
    split at h
    · rename_i hlt
      obtain ⟨rfl, rfl⟩ := Prod.mk.inj (Option.some.inj h)
      obtain ⟨h1, h2⟩ := hC.lst f l x hx
      refine ⟨h1, fun Γ w vs hfit hr hvs hf => Calls.mono (h2 Γ A w vs hfit.ρ hfit.W hr hvs) ?_⟩
      rintro e w' ⟨c, s, arr, v, rfl, gv, g1, g2, g3, g4, g5⟩
      have hnone : Γ.β A.next = none := hf A.next (Nat.le_refl _) (by show A.next < A.next + 1; omega)
      have hlt : A.next < lim := Nat.le_of_ble_eq_true hlt
      have had := adv_fresh (s := s) hr (o := .cells x.cs x.elem x.sz true) hlt hnone g1 (Array.getElem?_eq_some_iff.1 g2).1 g5.heap g5.size g5.tape g5.os g5.output g5.drawn (by
        rw [g2]
        exact ⟨arr, (0, 0), rfl, g3, fun _ => rfl, g4.mono (Gam.le_add hnone)⟩)
      exact ⟨_, _, rfl, LR.vr Gam.add_same (gv.mono (Gam.le_add hnone)), had⟩
    · cases h
  · split at h
    · rename_i fn hF
      obtain ⟨hfn, hnm⟩ := hC.fns f fn hF
      split at h
      · rename_i c hb
        refine ⟨⟨fn, c, hfn, hnm, hb⟩, fun Γ w vs hfit hr hvs hf => ?_⟩
        split at h
        · rename_i hlen
          have hlen := Nat.le_of_ble_eq_true hlen
          split at h
          · rename_i o s hrun
            split at h
            · rename_i hend
              split at h
              · rename_i r' hres
                have hnext : A'.next = s.A.next ∧ r = r' := by split at h <;> (obtain ⟨rfl, rfl⟩ := Prod.mk.inj (Option.some.inj h); exact ⟨rfl, rfl⟩)
                have hvl : vs.size = l.length := by have := hvs.len; simp at this; omega
                refine calls_of_wp hfn hb (wp_mono (hrc _ _ _ _ _ hrun Γ _ w hfit ⟨⟨by simp; omega, fun t x hx => ?_⟩, hr.low _, rfl⟩ (by rw [← hnext.1]; exact hf)) ?_)
                · rcases initT_get l 0 .leaf t x hx with ⟨i, rfl, hi⟩ | hx
                  · obtain ⟨v, h1, h2⟩ := hvs.get hi
                    rw [Nat.zero_add]
                    have hlt : i < vs.size := by have := (List.getElem?_eq_some_iff.1 hi).1; omega
                    refine ⟨v, ?_, h2⟩
                    simp only [Array.getElem?_append_left hlt]
                    simpa using h1
                  · simp [Tr.get_leaf] at hx
                · rintro e a' w' ⟨rfl, Γ', hi', hadv⟩
                  obtain ⟨v, h1, h2⟩ := resA_says hi' hres
                  have fin : ∃ v', (results fn a'.tmps).run C.P w' = .ok v' w' ∧ Back Γ A w r A' (.returned v') w' := by
                    refine ⟨v, h1, ?_⟩
                    split at h
                    · rename_i hp
                      obtain ⟨rfl, rfl⟩ := Prod.mk.inj (Option.some.inj h)
                      cases hsc : scalar r' with
                      | false => rw [hsc] at hp; cases hp
                      | true =>
                        rw [hsc] at hp
                        exact ⟨v, Γ, rfl, scalar_ok hadv.le.ρ.symm hsc h2, adv_pure hr hadv (Nat.le_of_ble_eq_true hp)⟩
                    · obtain ⟨rfl, rfl⟩ := Prod.mk.inj (Option.some.inj h)
                      exact ⟨v, Γ', rfl, h2, adv_call hadv⟩
                  cases o with
                  | normal => exact ⟨hi'.d, fin⟩
                  | ret => exact ⟨hi'.d, fin⟩
                  | exit id => cases hend
              · cases h
            · cases h
          · cases h
        · cases h
      · cases h
    · cases h
theorem wp_loop_one {P : Program} {c : Code} {Q : Exit → Act → World → Prop} {a : Act} {w : World} (J : Nat → Act → World → Prop) {n : Nat} (h0 : J n a w)
    (round : ∀ n a w, J n a w → c.wp P (Exit.then (fun a' w' => ∃ m, m < n ∧ J m a' w') Q) a w) : (Code.loop c).wp P Q a w := by
  intro b k cs
  have key : ∀ n a w, J n a w → ∃ e a' w', Q e a' w' ∧ Arrives P (lone (b.at a (.code c :: .inLoop c :: k)) cs w) b k cs e a' w' := by
    intro n
    induction n using Nat.strongRecOn with
    | _ n ih =>
      intro a w hJ
      obtain ⟨e, a₁, w₁, hq, harr⟩ := round n a w hJ b (.inLoop c :: k) cs
      cases e with
      | normal =>
        obtain ⟨m, hlt, hJ₁⟩ := hq
        obtain ⟨e₂, a₂, w₂, hq₂, harr₂⟩ := ih m hlt a₁ w₁ hJ₁
        exact ⟨e₂, a₂, w₂, hq₂, .of_steps (Steps.trans harr (.one step_inLoop)) harr₂⟩
      | exit id => exact ⟨_, a₁, w₁, hq, .pass (x := .inLoop c) rfl (fun _ _ => .inl (by simp)) harr⟩
      | goto l => exact ⟨_, a₁, w₁, hq, .pass (x := .inLoop c) rfl (fun _ _ => .inl (by simp)) harr⟩
      | ret => exact ⟨_, a₁, w₁, hq, .pass (x := .inLoop c) rfl (fun _ _ => .inl (by simp)) harr⟩
      | panic ch => exact ⟨_, a₁, w₁, hq, .pass (x := .inLoop c) rfl (fun _ _ => .inl (by simp)) harr⟩
      | outgrown => exact ⟨_, a₁, w₁, hq, .pass (x := .inLoop c) rfl (fun _ _ => .inl (by simp)) harr⟩
  obtain ⟨e, a', w', hq, harr⟩ := key n a w h0
  exact ⟨e, a', w', hq, .of_steps (.one step_loop) harr⟩
end
/-- ████ The run is right. ████ -/
theorem run_ok {C : Cfg} {ρ : Nat → Int} {W : World} (hC : C.Ok ρ W) : ∀ n, RunOk C ρ W (run C n) := by
  intro n
  induction n using Nat.strongRecOn with
  | _ n ih =>
    cases n with
    | zero => intro N c s o s' h; cases h
    | succ n =>
      have hrc := ih n (Nat.lt_succ_self _)
      have hup := run_up C n
      have hcall := callA_ok hC hrc
      have hcu := callA_up hup (C := C)
      intro N c s o s' h Γ a w hfit hi hf
      rw [run_succ] at h
      unfold stepC at h
      split at h
      · cases h
        exact wp_skip ⟨rfl, Γ, hi, Adv.refl hi.A⟩
      · cases h
        exact wp_label ⟨rfl, Γ, hi, Adv.refl hi.A⟩
      · rename_i x y
        refine wp_seq ?_
        split at h
        · rename_i s1 h1
          have u2 := hup _ _ _ _ _ h
          refine wp_mono (hrc _ _ _ _ _ h1 Γ a w hfit hi (hf.left u2)) ?_
          rintro e a1 w1 ⟨rfl, Γ1, hi1, ad1⟩
          refine wp_mono (hrc _ _ _ _ _ h Γ1 a1 w1 (hfit.mono ad1.le) hi1 (hf.right ad1)) ?_
          rintro e a2 w2 ⟨rfl, Γ2, hi2, ad2⟩
          exact ⟨rfl, Γ2, hi2, ad1.trans ad2⟩
        · rename_i hne
          refine wp_mono (hrc _ _ _ _ _ h Γ a w hfit hi hf) ?_
          rintro e a1 w1 ⟨rfl, Γ1, hi1, ad1⟩
          cases o with
          | normal => exact absurd h (hne s')
          | exit id => exact ⟨rfl, Γ1, hi1, ad1⟩
          | ret => exact ⟨rfl, Γ1, hi1, ad1⟩
      · rename_i x y z
        have hv := val_ok hfit.gl hi.T x
        split at h
        · rename_i hx
          rw [hx] at hv
          generalize hgx : a.eval x = vx at hv
          cases hv
          exact wp_cond_true hgx (hrc _ _ _ _ _ h Γ a w hfit hi hf)
        · rename_i hx
          rw [hx] at hv
          generalize hgx : a.eval x = vx at hv
          cases hv
          exact wp_cond_false hgx (hrc _ _ _ _ _ h Γ a w hfit hi hf)
        · cases h
      · rename_i id b
        refine wp_block ?_
        split at h
        · rename_i j s1 h1
          split at h
          · rename_i hj
            obtain rfl := natIs_eq hj
            cases h
            refine wp_mono (hrc _ _ _ _ _ h1 Γ a w hfit hi hf) ?_
            rintro e a1 w1 ⟨rfl, Γ1, hi1, ad1⟩
            show Exit.inBlock j _ (.exit j) a1 w1
            simp only [Exit.inBlock, ↓reduceIte]
            exact ⟨rfl, Γ1, hi1, ad1⟩
          · rename_i hj
            have hj := natIs_ne hj
            cases h
            refine wp_mono (hrc _ _ _ _ _ h1 Γ a w hfit hi hf) ?_
            rintro e a1 w1 ⟨rfl, Γ1, hi1, ad1⟩
            show Exit.inBlock id _ (.exit j) a1 w1
            simp only [Exit.inBlock, if_neg hj]
            exact ⟨rfl, Γ1, hi1, ad1⟩
        · rename_i hne
          refine wp_mono (hrc _ _ _ _ _ h Γ a w hfit hi hf) ?_
          rintro e a1 w1 ⟨rfl, Γ1, hi1, ad1⟩
          cases o with
          | normal => exact ⟨rfl, Γ1, hi1, ad1⟩
          | exit j => exact absurd h (hne j s')
          | ret => exact ⟨rfl, Γ1, hi1, ad1⟩
      · rename_i b
        -- a loop: by the fuel that is left
        refine wp_loop_one (fun m a1 w1 => m ≤ n + 1 ∧ ∃ s1 Γ1, run C m N (.loop b) s1 = some (o, s') ∧ Fits C ρ W Γ1 ∧ Is Γ1 N s1 a1 w1 ∧ Free Γ1 s1.A.next s'.A.next ∧ Adv Γ s.A w Γ1 s1.A w1) (n := n + 1)
          ⟨Nat.le_refl _, s, Γ, ?_, hfit, hi, hf, Adv.refl hi.A⟩ ?_
        · rw [run_succ]; exact h
        · rintro m a1 w1 ⟨hm, s1, Γ1, h1, f1, i1, r1, ad1⟩
          cases m with
          | zero => cases h1
          | succ m =>
            rw [run_succ] at h1
            unfold stepC at h1
            simp only at h1
            have hrm := ih m (by omega)
            split at h1
            · rename_i s2 h2
              have u2 := run_up C m _ _ _ _ _ h1
              refine wp_mono (hrm _ _ _ _ _ h2 Γ1 a1 w1 f1 i1 (r1.left u2)) ?_
              rintro e a2 w2 ⟨rfl, Γ2, i2, ad2⟩
              exact ⟨m, Nat.lt_succ_self _, by omega, s2, Γ2, h1, f1.mono ad2.le, i2, r1.right ad2, ad1.trans ad2⟩
            · rename_i hne
              refine wp_mono (hrm _ _ _ _ _ h1 Γ1 a1 w1 f1 i1 r1) ?_
              rintro e a2 w2 ⟨rfl, Γ2, i2, ad2⟩
              cases o with
              | normal => exact absurd h1 (hne s')
              | exit j => exact ⟨rfl, Γ2, i2, ad1.trans ad2⟩
              | ret => exact ⟨rfl, Γ2, i2, ad1.trans ad2⟩
      · cases h
        exact wp_exit ⟨rfl, Γ, hi, Adv.refl hi.A⟩
      · cases h
        exact wp_ret ⟨rfl, Γ, hi, Adv.refl hi.A⟩
      · rename_i id ops
        split at h
        · rename_i s1 h1
          cases h
          refine wp_region ?_
          have := ops1_wp hC hcall hcu (Q := fun e a' w' => e = outExit .normal ∧ ∃ Γ', Is Γ' N s' a' w' ∧ Adv Γ s.A w Γ' s'.A w') ops.toList 0 s s' Γ a w rfl h1 hfit hi hf fun a' w' Γ' g1 g2 => ⟨rfl, Γ', g1, g2⟩
          rwa [← List.range_eq_range', Array.length_toList] at this
        · cases h
      · rename_i id ops
        split at h
        · rename_i s1 h1
          cases h
          refine wp_region_any hC.mixed ?_
          have hd := adv_drew (w' := { w with drawn := w.drawn + 1 }) hi.A rfl rfl rfl rfl (Nat.le_succ _)
          exact drawR_wp hC hcall hcu (fun e a' w' hne hq => hne hq.1) h1 hfit ⟨hi.T, hd.hr, hi.d⟩ hf fun a' w' Γ' g1 g2 => ⟨rfl, Γ', g1, hd.trans g2⟩
        · cases h
      · cases h
/-- ████ A call that the run answers. ████ -/
theorem calls_of_run {C : Cfg} {ρ : Nat → Int} {W : World} (hC : C.Ok ρ W) {n f : Nat} {l : List AV} {A A' : AH} {r : AV} (h : callA (run C n) C f l A = some (r, A')) {Γ : Gam} {w : World} {vs : Array Value} (hfit : Fits C ρ W Γ) (hr : HR Γ A w) (hvs : VRs Γ l vs.toList) (hf : Free Γ A.next A'.next) :
    Calls C.P f vs w (Back Γ A w r A') :=
  (callA_ok hC (run_ok hC n) f l A r A' h).2 Γ w vs hfit hr hvs hf
end
end Go.Proofs.YtnikgcedifdaeaaGreatDoor.Ab
end
