/- Texts of the proof of 'SabbathParts', joined by a program (part 3): contracts of functions, plain laws. -/
import Derived.Test.YtnknfolnbhljfaaDoorJSabbathParts2
set_option linter.unusedVariables false
set_option linter.unusedSimpArgs false
set_option linter.unusedSectionVars false
section
/- The model's operations, walked alike (Lead); printed by a program of mine (gen_ops2.py). -/
namespace Go.Proofs.YtnknfolnbhljfaaDoor.Lift
open Go Go.Conc
set_option linter.unusedVariables false
set_option linter.unusedSimpArgs false
section
variable {V : Env}
theorem Lead.typeStr (h : Tab V) (t : TypeId) : Lead V (Go.typeStr t) := by
    unfold Go.typeStr
    repeat' first
      | (with_reducible refine Lead.getObjH h _ ?gk_ (.inr ?gd_) (fun _ _ h => ?_); (case gk_ => intros; rfl); (case gd_ => intro w_; refine ⟨_, _, rfl, ?_⟩; simp [Soft]))
      | (with_reducible refine Lead.forInArray _ ?_ _ _; intro _ _)
      | (with_reducible refine Lead.forInRange _ ?_ _ _; intro _ _)
      | (with_reducible refine Lead.forInList _ ?_ _ _; intro _ _)
      | (with_reducible refine Lead.mapArray _ ?_ _; intro _)
      | (with_reducible refine Lead.foldlM _ ?_ _ _; intro _ _)
      | with_reducible assumption
      | with_reducible exact Lead.pure _
      | with_reducible exact Lead.stuck _
      | with_reducible exact Lead.unsupported _
      | with_reducible exact Lead.goPanic _
      | with_reducible exact Lead.typeInfo h _
      | with_reducible refine Lead.bind ?_ (fun _ => ?_)
      | with_reducible refine Lead.map ?_
      | with_reducible refine Lead.iteH (fun _ => ?_) (fun _ => ?_)
      | split
      | dsimp only

theorem Lead.loadAt (h : Tab V) (t : TypeId) (a : Value) : Lead V (Instr.loadAt t a) := by
    unfold Instr.loadAt
    repeat' first
      | (with_reducible refine Lead.getObjH h _ ?gk_ (.inr ?gd_) (fun _ _ h => ?_); (case gk_ => intros; rfl); (case gd_ => intro w_; refine ⟨_, _, rfl, ?_⟩; simp [Soft]))
      | (with_reducible refine Lead.forInArray _ ?_ _ _; intro _ _)
      | (with_reducible refine Lead.forInRange _ ?_ _ _; intro _ _)
      | (with_reducible refine Lead.forInList _ ?_ _ _; intro _ _)
      | (with_reducible refine Lead.mapArray _ ?_ _; intro _)
      | (with_reducible refine Lead.foldlM _ ?_ _ _; intro _ _)
      | with_reducible assumption
      | with_reducible exact Lead.pure _
      | with_reducible exact Lead.stuck _
      | with_reducible exact Lead.unsupported _
      | with_reducible exact Lead.goPanic _
      | with_reducible exact Lead.loadVar h _ _
      | with_reducible exact Lead.sureAddr _
      | with_reducible refine Lead.bind ?_ (fun _ => ?_)
      | with_reducible refine Lead.map ?_
      | with_reducible refine Lead.iteH (fun _ => ?_) (fun _ => ?_)
      | split
      | dsimp only

theorem Lead.storeAt (h : Tab V) (t : TypeId) (a v : Value) : Lead V (Instr.storeAt t a v) := by
    unfold Instr.storeAt
    repeat' first
      | (with_reducible refine Lead.getObjH h _ ?gk_ (.inr ?gd_) (fun _ _ h => ?_); (case gk_ => intros; rfl); (case gd_ => intro w_; refine ⟨_, _, rfl, ?_⟩; simp [Soft]))
      | (with_reducible refine Lead.forInArray _ ?_ _ _; intro _ _)
      | (with_reducible refine Lead.forInRange _ ?_ _ _; intro _ _)
      | (with_reducible refine Lead.forInList _ ?_ _ _; intro _ _)
      | (with_reducible refine Lead.mapArray _ ?_ _; intro _)
      | (with_reducible refine Lead.foldlM _ ?_ _ _; intro _ _)
      | with_reducible assumption
      | with_reducible exact Lead.pure _
      | with_reducible exact Lead.stuck _
      | with_reducible exact Lead.unsupported _
      | with_reducible exact Lead.goPanic _
      | with_reducible exact Lead.storeVar h _ _ _
      | with_reducible exact Lead.sureAddr _
      | with_reducible refine Lead.bind ?_ (fun _ => ?_)
      | with_reducible refine Lead.map ?_
      | with_reducible refine Lead.iteH (fun _ => ?_) (fun _ => ?_)
      | split
      | dsimp only

theorem Lead.alloc (h : Tab V) (t : TypeId) (b : Bool) (v : Value) : Lead V (Instr.alloc t b v) := by
    unfold Instr.alloc
    repeat' first
      | (with_reducible refine Lead.getObjH h _ ?gk_ (.inr ?gd_) (fun _ _ h => ?_); (case gk_ => intros; rfl); (case gd_ => intro w_; refine ⟨_, _, rfl, ?_⟩; simp [Soft]))
      | (with_reducible refine Lead.forInArray _ ?_ _ _; intro _ _)
      | (with_reducible refine Lead.forInRange _ ?_ _ _; intro _ _)
      | (with_reducible refine Lead.forInList _ ?_ _ _; intro _ _)
      | (with_reducible refine Lead.mapArray _ ?_ _; intro _)
      | (with_reducible refine Lead.foldlM _ ?_ _ _; intro _ _)
      | with_reducible assumption
      | with_reducible exact Lead.pure _
      | with_reducible exact Lead.stuck _
      | with_reducible exact Lead.unsupported _
      | with_reducible exact Lead.goPanic _
      | with_reducible exact Lead.zeroValue h _
      | with_reducible exact Lead.storeVar h _ _ _
      | with_reducible exact Lead.newVar _ _
      | with_reducible refine Lead.bind ?_ (fun _ => ?_)
      | with_reducible refine Lead.map ?_
      | with_reducible refine Lead.iteH (fun _ => ?_) (fun _ => ?_)
      | split
      | dsimp only

theorem Lead.box (h : Tab V) (t : TypeId) (v : Value) : Lead V (Instr.box t v) := by
    unfold Instr.box
    repeat' first
      | (with_reducible refine Lead.getObjH h _ ?gk_ (.inr ?gd_) (fun _ _ h => ?_); (case gk_ => intros; rfl); (case gd_ => intro w_; refine ⟨_, _, rfl, ?_⟩; simp [Soft]))
      | (with_reducible refine Lead.forInArray _ ?_ _ _; intro _ _)
      | (with_reducible refine Lead.forInRange _ ?_ _ _; intro _ _)
      | (with_reducible refine Lead.forInList _ ?_ _ _; intro _ _)
      | (with_reducible refine Lead.mapArray _ ?_ _; intro _)
      | (with_reducible refine Lead.foldlM _ ?_ _ _; intro _ _)
      | with_reducible assumption
      | with_reducible exact Lead.pure _
      | with_reducible exact Lead.stuck _
      | with_reducible exact Lead.unsupported _
      | with_reducible exact Lead.goPanic _
      | with_reducible exact Lead.newVar _ _
      | with_reducible refine Lead.bind ?_ (fun _ => ?_)
      | with_reducible refine Lead.map ?_
      | with_reducible refine Lead.iteH (fun _ => ?_) (fun _ => ?_)
      | split
      | dsimp only

theorem Lead.field (h : Tab V) (t : TypeId) (v : Value) (f : Nat) : Lead V (Instr.field t v f) := by
    unfold Instr.field
    repeat' first
      | (with_reducible refine Lead.getObjH h _ ?gk_ (.inr ?gd_) (fun _ _ h => ?_); (case gk_ => intros; rfl); (case gd_ => intro w_; refine ⟨_, _, rfl, ?_⟩; simp [Soft]))
      | (with_reducible refine Lead.forInArray _ ?_ _ _; intro _ _)
      | (with_reducible refine Lead.forInRange _ ?_ _ _; intro _ _)
      | (with_reducible refine Lead.forInList _ ?_ _ _; intro _ _)
      | (with_reducible refine Lead.mapArray _ ?_ _; intro _)
      | (with_reducible refine Lead.foldlM _ ?_ _ _; intro _ _)
      | with_reducible assumption
      | with_reducible exact Lead.pure _
      | with_reducible exact Lead.stuck _
      | with_reducible exact Lead.unsupported _
      | with_reducible exact Lead.goPanic _
      | with_reducible exact Lead.underlying h _
      | with_reducible exact Lead.part h _ _ _
      | with_reducible exact Lead.asInt _
      | with_reducible exact Lead.asAgg _
      | with_reducible exact Lead.load _ _
      | with_reducible refine Lead.bind ?_ (fun _ => ?_)
      | with_reducible refine Lead.map ?_
      | with_reducible refine Lead.iteH (fun _ => ?_) (fun _ => ?_)
      | split
      | dsimp only

theorem Lead.index (h : Tab V) (t : TypeId) (v i : Value) : Lead V (Instr.index t v i) := by
    unfold Instr.index
    repeat' first
      | (with_reducible refine Lead.getObjH h _ ?gk_ (.inr ?gd_) (fun _ _ h => ?_); (case gk_ => intros; rfl); (case gd_ => intro w_; refine ⟨_, _, rfl, ?_⟩; simp [Soft]))
      | (with_reducible refine Lead.forInArray _ ?_ _ _; intro _ _)
      | (with_reducible refine Lead.forInRange _ ?_ _ _; intro _ _)
      | (with_reducible refine Lead.forInList _ ?_ _ _; intro _ _)
      | (with_reducible refine Lead.mapArray _ ?_ _; intro _)
      | (with_reducible refine Lead.foldlM _ ?_ _ _; intro _ _)
      | with_reducible assumption
      | with_reducible exact Lead.pure _
      | with_reducible exact Lead.stuck _
      | with_reducible exact Lead.unsupported _
      | with_reducible exact Lead.goPanic _
      | with_reducible exact Lead.boundsPanic h _ _ _ _
      | with_reducible exact Lead.underlying h _
      | with_reducible exact Lead.sizeOf h _
      | with_reducible exact Lead.part h _ _ _
      | with_reducible exact Lead.asIntOf _
      | with_reducible exact Lead.asInt _
      | with_reducible exact Lead.load _ _
      | with_reducible refine Lead.bind ?_ (fun _ => ?_)
      | with_reducible refine Lead.map ?_
      | with_reducible refine Lead.iteH (fun _ => ?_) (fun _ => ?_)
      | split
      | dsimp only

theorem Lead.indexAt (h : Tab V) (t : TypeId) (v i : Value) : Lead V (Instr.indexAt t v i) := by
    unfold Instr.indexAt
    repeat' first
      | (with_reducible refine Lead.getObjH h _ ?gk_ (.inr ?gd_) (fun _ _ h => ?_); (case gk_ => intros; rfl); (case gd_ => intro w_; refine ⟨_, _, rfl, ?_⟩; simp [Soft]))
      | (with_reducible refine Lead.forInArray _ ?_ _ _; intro _ _)
      | (with_reducible refine Lead.forInRange _ ?_ _ _; intro _ _)
      | (with_reducible refine Lead.forInList _ ?_ _ _; intro _ _)
      | (with_reducible refine Lead.mapArray _ ?_ _; intro _)
      | (with_reducible refine Lead.foldlM _ ?_ _ _; intro _ _)
      | with_reducible assumption
      | with_reducible exact Lead.pure _
      | with_reducible exact Lead.stuck _
      | with_reducible exact Lead.unsupported _
      | with_reducible exact Lead.goPanic _
      | with_reducible exact Lead.boundsPanic h _ _ _ _
      | with_reducible exact Lead.underlying h _
      | with_reducible exact Lead.sizeOf h _
      | with_reducible exact Lead.asIntOf _
      | with_reducible exact Lead.sureAddr _
      | with_reducible exact Lead.index h _ _ _
      | with_reducible refine Lead.bind ?_ (fun _ => ?_)
      | with_reducible refine Lead.map ?_
      | with_reducible refine Lead.iteH (fun _ => ?_) (fun _ => ?_)
      | split
      | dsimp only

theorem Lead.sliceBound (h : Tab V) (x : Value) (y : Nat) (c : BoundsCode) : Lead V (Instr.sliceBound x y c) := by
    unfold Instr.sliceBound
    repeat' first
      | (with_reducible refine Lead.getObjH h _ ?gk_ (.inr ?gd_) (fun _ _ h => ?_); (case gk_ => intros; rfl); (case gd_ => intro w_; refine ⟨_, _, rfl, ?_⟩; simp [Soft]))
      | (with_reducible refine Lead.forInArray _ ?_ _ _; intro _ _)
      | (with_reducible refine Lead.forInRange _ ?_ _ _; intro _ _)
      | (with_reducible refine Lead.forInList _ ?_ _ _; intro _ _)
      | (with_reducible refine Lead.mapArray _ ?_ _; intro _)
      | (with_reducible refine Lead.foldlM _ ?_ _ _; intro _ _)
      | with_reducible assumption
      | with_reducible exact Lead.pure _
      | with_reducible exact Lead.stuck _
      | with_reducible exact Lead.unsupported _
      | with_reducible exact Lead.goPanic _
      | with_reducible exact Lead.boundsPanic h _ _ _ _
      | with_reducible exact Lead.asIntOf _
      | with_reducible refine Lead.bind ?_ (fun _ => ?_)
      | with_reducible refine Lead.map ?_
      | with_reducible refine Lead.iteH (fun _ => ?_) (fun _ => ?_)
      | split
      | dsimp only

theorem Lead.sliceBounds (h : Tab V) (b : Bool) (l c : Nat) (x y z : Option Value) : Lead V (Instr.sliceBounds b l c x y z) := by
    unfold Instr.sliceBounds
    repeat' first
      | (with_reducible refine Lead.getObjH h _ ?gk_ (.inr ?gd_) (fun _ _ h => ?_); (case gk_ => intros; rfl); (case gd_ => intro w_; refine ⟨_, _, rfl, ?_⟩; simp [Soft]))
      | (with_reducible refine Lead.forInArray _ ?_ _ _; intro _ _)
      | (with_reducible refine Lead.forInRange _ ?_ _ _; intro _ _)
      | (with_reducible refine Lead.forInList _ ?_ _ _; intro _ _)
      | (with_reducible refine Lead.mapArray _ ?_ _; intro _)
      | (with_reducible refine Lead.foldlM _ ?_ _ _; intro _ _)
      | with_reducible assumption
      | with_reducible exact Lead.pure _
      | with_reducible exact Lead.stuck _
      | with_reducible exact Lead.unsupported _
      | with_reducible exact Lead.goPanic _
      | with_reducible exact Lead.sliceBound h _ _ _
      | with_reducible refine Lead.bind ?_ (fun _ => ?_)
      | with_reducible refine Lead.map ?_
      | with_reducible refine Lead.iteH (fun _ => ?_) (fun _ => ?_)
      | split
      | dsimp only

theorem Lead.slice (h : Tab V) (t : TypeId) (x : Value) (l m n : Option Value) : Lead V (Instr.slice t x l m n) := by
    unfold Instr.slice
    repeat' first
      | (with_reducible refine Lead.getObjH h _ ?gk_ (.inr ?gd_) (fun _ _ h => ?_); (case gk_ => intros; rfl); (case gd_ => intro w_; refine ⟨_, _, rfl, ?_⟩; simp [Soft]))
      | (with_reducible refine Lead.forInArray _ ?_ _ _; intro _ _)
      | (with_reducible refine Lead.forInRange _ ?_ _ _; intro _ _)
      | (with_reducible refine Lead.forInList _ ?_ _ _; intro _ _)
      | (with_reducible refine Lead.mapArray _ ?_ _; intro _)
      | (with_reducible refine Lead.foldlM _ ?_ _ _; intro _ _)
      | with_reducible assumption
      | with_reducible exact Lead.pure _
      | with_reducible exact Lead.stuck _
      | with_reducible exact Lead.unsupported _
      | with_reducible exact Lead.goPanic _
      | with_reducible exact Lead.underlying h _
      | with_reducible exact Lead.typeInfo h _
      | with_reducible exact Lead.sizeOf h _
      | with_reducible exact Lead.newVar _ _
      | with_reducible exact Lead.asInt _
      | with_reducible exact Lead.asAddr h _
      | with_reducible exact Lead.index h _ _ _
      | with_reducible exact Lead.sliceBounds h _ _ _ _ _ _
      | with_reducible refine Lead.bind ?_ (fun _ => ?_)
      | with_reducible refine Lead.map ?_
      | with_reducible refine Lead.iteH (fun _ => ?_) (fun _ => ?_)
      | split
      | dsimp only

theorem Lead.sliceAt (h : Tab V) (t : TypeId) (x : Value) (l m n : Option Value) : Lead V (Instr.sliceAt t x l m n) := by
    unfold Instr.sliceAt
    repeat' first
      | (with_reducible refine Lead.getObjH h _ ?gk_ (.inr ?gd_) (fun _ _ h => ?_); (case gk_ => intros; rfl); (case gd_ => intro w_; refine ⟨_, _, rfl, ?_⟩; simp [Soft]))
      | (with_reducible refine Lead.forInArray _ ?_ _ _; intro _ _)
      | (with_reducible refine Lead.forInRange _ ?_ _ _; intro _ _)
      | (with_reducible refine Lead.forInList _ ?_ _ _; intro _ _)
      | (with_reducible refine Lead.mapArray _ ?_ _; intro _)
      | (with_reducible refine Lead.foldlM _ ?_ _ _; intro _ _)
      | with_reducible assumption
      | with_reducible exact Lead.pure _
      | with_reducible exact Lead.stuck _
      | with_reducible exact Lead.unsupported _
      | with_reducible exact Lead.goPanic _
      | with_reducible exact Lead.runtimePanic h _
      | with_reducible exact Lead.underlying h _
      | with_reducible exact Lead.typeInfo h _
      | with_reducible exact Lead.sizeOf h _
      | with_reducible exact Lead.asInt _
      | with_reducible exact Lead.sureAddr _
      | with_reducible exact Lead.sliceBounds h _ _ _ _ _ _
      | with_reducible exact Lead.slice h _ _ _ _ _
      | with_reducible refine Lead.bind ?_ (fun _ => ?_)
      | with_reducible refine Lead.map ?_
      | with_reducible refine Lead.iteH (fun _ => ?_) (fun _ => ?_)
      | split
      | dsimp only

theorem Lead.arrayAt (h : Tab V) (t : TypeId) (x : Value) : Lead V (Instr.arrayAt t x) := by
    unfold Instr.arrayAt
    repeat' first
      | (with_reducible refine Lead.getObjH h _ ?gk_ (.inr ?gd_) (fun _ _ h => ?_); (case gk_ => intros; rfl); (case gd_ => intro w_; refine ⟨_, _, rfl, ?_⟩; simp [Soft]))
      | (with_reducible refine Lead.forInArray _ ?_ _ _; intro _ _)
      | (with_reducible refine Lead.forInRange _ ?_ _ _; intro _ _)
      | (with_reducible refine Lead.forInList _ ?_ _ _; intro _ _)
      | (with_reducible refine Lead.mapArray _ ?_ _; intro _)
      | (with_reducible refine Lead.foldlM _ ?_ _ _; intro _ _)
      | with_reducible assumption
      | with_reducible exact Lead.pure _
      | with_reducible exact Lead.stuck _
      | with_reducible exact Lead.unsupported _
      | with_reducible exact Lead.goPanic _
      | with_reducible exact Lead.runtimePanic h _
      | with_reducible exact Lead.underlying h _
      | with_reducible exact Lead.slice h _ _ _ _ _
      | with_reducible refine Lead.bind ?_ (fun _ => ?_)
      | with_reducible refine Lead.map ?_
      | with_reducible refine Lead.iteH (fun _ => ?_) (fun _ => ?_)
      | split
      | dsimp only

theorem Lead.makeInterface (h : Tab V) (t : TypeId) (x : Value) : Lead V (Instr.makeInterface t x) := by
    unfold Instr.makeInterface
    repeat' first
      | (with_reducible refine Lead.getObjH h _ ?gk_ (.inr ?gd_) (fun _ _ h => ?_); (case gk_ => intros; rfl); (case gd_ => intro w_; refine ⟨_, _, rfl, ?_⟩; simp [Soft]))
      | (with_reducible refine Lead.forInArray _ ?_ _ _; intro _ _)
      | (with_reducible refine Lead.forInRange _ ?_ _ _; intro _ _)
      | (with_reducible refine Lead.forInList _ ?_ _ _; intro _ _)
      | (with_reducible refine Lead.mapArray _ ?_ _; intro _)
      | (with_reducible refine Lead.foldlM _ ?_ _ _; intro _ _)
      | with_reducible assumption
      | with_reducible exact Lead.pure _
      | with_reducible exact Lead.stuck _
      | with_reducible exact Lead.unsupported _
      | with_reducible exact Lead.goPanic _
      | with_reducible exact Lead.underlying h _
      | with_reducible refine Lead.bind ?_ (fun _ => ?_)
      | with_reducible refine Lead.map ?_
      | with_reducible refine Lead.iteH (fun _ => ?_) (fun _ => ?_)
      | split
      | dsimp only

theorem Lead.makeFunc (h : Tab V) (f : Fn) (a b : Array Value) : Lead V (Instr.makeFunc f a b) := by
    unfold Instr.makeFunc
    repeat' first
      | (with_reducible refine Lead.getObjH h _ ?gk_ (.inr ?gd_) (fun _ _ h => ?_); (case gk_ => intros; rfl); (case gd_ => intro w_; refine ⟨_, _, rfl, ?_⟩; simp [Soft]))
      | (with_reducible refine Lead.forInArray _ ?_ _ _; intro _ _)
      | (with_reducible refine Lead.forInRange _ ?_ _ _; intro _ _)
      | (with_reducible refine Lead.forInList _ ?_ _ _; intro _ _)
      | (with_reducible refine Lead.mapArray _ ?_ _; intro _)
      | (with_reducible refine Lead.foldlM _ ?_ _ _; intro _ _)
      | with_reducible assumption
      | with_reducible exact Lead.pure _
      | with_reducible exact Lead.stuck _
      | with_reducible exact Lead.unsupported _
      | with_reducible exact Lead.goPanic _
      | with_reducible exact Lead.underlying h _
      | with_reducible exact Lead.slice h _ _ _ _ _
      | with_reducible refine Lead.bind ?_ (fun _ => ?_)
      | with_reducible refine Lead.map ?_
      | with_reducible refine Lead.iteH (fun _ => ?_) (fun _ => ?_)
      | split
      | dsimp only

theorem Lead.extract (h : Tab V) (v : Value) (i : Nat) : Lead V (Instr.extract v i) := by
    unfold Instr.extract
    repeat' first
      | (with_reducible refine Lead.getObjH h _ ?gk_ (.inr ?gd_) (fun _ _ h => ?_); (case gk_ => intros; rfl); (case gd_ => intro w_; refine ⟨_, _, rfl, ?_⟩; simp [Soft]))
      | (with_reducible refine Lead.forInArray _ ?_ _ _; intro _ _)
      | (with_reducible refine Lead.forInRange _ ?_ _ _; intro _ _)
      | (with_reducible refine Lead.forInList _ ?_ _ _; intro _ _)
      | (with_reducible refine Lead.mapArray _ ?_ _; intro _)
      | (with_reducible refine Lead.foldlM _ ?_ _ _; intro _ _)
      | with_reducible assumption
      | with_reducible exact Lead.pure _
      | with_reducible exact Lead.stuck _
      | with_reducible exact Lead.unsupported _
      | with_reducible exact Lead.goPanic _
      | with_reducible exact Lead.index h _ _ _
      | with_reducible refine Lead.bind ?_ (fun _ => ?_)
      | with_reducible refine Lead.map ?_
      | with_reducible refine Lead.iteH (fun _ => ?_) (fun _ => ?_)
      | split
      | dsimp only

theorem Lead.buildSlice (h : Tab V) (t : TypeId) (n : Nat) (ps : Array (Nat × Value)) : Lead V (Instr.buildSlice t n ps) := by
    unfold Instr.buildSlice
    repeat' first
      | (with_reducible refine Lead.getObjH h _ ?gk_ (.inr ?gd_) (fun _ _ h => ?_); (case gk_ => intros; rfl); (case gd_ => intro w_; refine ⟨_, _, rfl, ?_⟩; simp [Soft]))
      | (with_reducible refine Lead.forInArray _ ?_ _ _; intro _ _)
      | (with_reducible refine Lead.forInRange _ ?_ _ _; intro _ _)
      | (with_reducible refine Lead.forInList _ ?_ _ _; intro _ _)
      | (with_reducible refine Lead.mapArray _ ?_ _; intro _)
      | (with_reducible refine Lead.foldlM _ ?_ _ _; intro _ _)
      | with_reducible assumption
      | with_reducible exact Lead.pure _
      | with_reducible exact Lead.stuck _
      | with_reducible exact Lead.unsupported _
      | with_reducible exact Lead.goPanic _
      | with_reducible exact Lead.underlying h _
      | with_reducible exact Lead.zeroValue h _
      | with_reducible exact Lead.sizeOf h _
      | with_reducible exact Lead.newRow _ _
      | with_reducible exact Lead.part h _ _ _
      | with_reducible exact Lead.slice h _ _ _ _ _
      | with_reducible refine Lead.bind ?_ (fun _ => ?_)
      | with_reducible refine Lead.map ?_
      | with_reducible refine Lead.iteH (fun _ => ?_) (fun _ => ?_)
      | split
      | dsimp only

theorem Lead.makeSlice (h : Tab V) (t : TypeId) (l c : Value) : Lead V (Instr.makeSlice t l c) := by
    unfold Instr.makeSlice
    repeat' first
      | (with_reducible refine Lead.getObjH h _ ?gk_ (.inr ?gd_) (fun _ _ h => ?_); (case gk_ => intros; rfl); (case gd_ => intro w_; refine ⟨_, _, rfl, ?_⟩; simp [Soft]))
      | (with_reducible refine Lead.forInArray _ ?_ _ _; intro _ _)
      | (with_reducible refine Lead.forInRange _ ?_ _ _; intro _ _)
      | (with_reducible refine Lead.forInList _ ?_ _ _; intro _ _)
      | (with_reducible refine Lead.mapArray _ ?_ _; intro _)
      | (with_reducible refine Lead.foldlM _ ?_ _ _; intro _ _)
      | with_reducible assumption
      | with_reducible exact Lead.pure _
      | with_reducible exact Lead.stuck _
      | with_reducible exact Lead.unsupported _
      | with_reducible exact Lead.goPanic _
      | with_reducible exact Lead.runtimePanic h _
      | with_reducible exact Lead.underlying h _
      | with_reducible exact Lead.typeInfo h _
      | with_reducible exact Lead.zeroValue h _
      | with_reducible exact Lead.sizeOf h _
      | with_reducible exact Lead.newRow _ _
      | with_reducible exact Lead.asInt _
      | with_reducible exact Lead.choose _
      | with_reducible exact Lead.askRoom _
      | with_reducible exact Lead.slice h _ _ _ _ _
      | with_reducible refine Lead.bind ?_ (fun _ => ?_)
      | with_reducible refine Lead.map ?_
      | with_reducible refine Lead.iteH (fun _ => ?_) (fun _ => ?_)
      | split
      | dsimp only

theorem Lead.intArith (h : Tab V) (o : BinOp) (k : IntKind) (x y : Int) : Lead V (Op.intArith o k x y) := by
    unfold Op.intArith
    repeat' first
      | (with_reducible refine Lead.getObjH h _ ?gk_ (.inr ?gd_) (fun _ _ h => ?_); (case gk_ => intros; rfl); (case gd_ => intro w_; refine ⟨_, _, rfl, ?_⟩; simp [Soft]))
      | (with_reducible refine Lead.forInArray _ ?_ _ _; intro _ _)
      | (with_reducible refine Lead.forInRange _ ?_ _ _; intro _ _)
      | (with_reducible refine Lead.forInList _ ?_ _ _; intro _ _)
      | (with_reducible refine Lead.mapArray _ ?_ _; intro _)
      | (with_reducible refine Lead.foldlM _ ?_ _ _; intro _ _)
      | with_reducible assumption
      | with_reducible exact Lead.pure _
      | with_reducible exact Lead.stuck _
      | with_reducible exact Lead.unsupported _
      | with_reducible exact Lead.goPanic _
      | with_reducible refine Lead.bind ?_ (fun _ => ?_)
      | with_reducible refine Lead.map ?_
      | with_reducible refine Lead.iteH (fun _ => ?_) (fun _ => ?_)
      | split
      | dsimp only

theorem Lead.intDiv (h : Tab V) (o : BinOp) (k : IntKind) (x y : Int) : Lead V (Op.intDiv o k x y) := by
    unfold Op.intDiv
    repeat' first
      | (with_reducible refine Lead.getObjH h _ ?gk_ (.inr ?gd_) (fun _ _ h => ?_); (case gk_ => intros; rfl); (case gd_ => intro w_; refine ⟨_, _, rfl, ?_⟩; simp [Soft]))
      | (with_reducible refine Lead.forInArray _ ?_ _ _; intro _ _)
      | (with_reducible refine Lead.forInRange _ ?_ _ _; intro _ _)
      | (with_reducible refine Lead.forInList _ ?_ _ _; intro _ _)
      | (with_reducible refine Lead.mapArray _ ?_ _; intro _)
      | (with_reducible refine Lead.foldlM _ ?_ _ _; intro _ _)
      | with_reducible assumption
      | with_reducible exact Lead.pure _
      | with_reducible exact Lead.stuck _
      | with_reducible exact Lead.unsupported _
      | with_reducible exact Lead.goPanic _
      | with_reducible exact Lead.runtimePanic h _
      | with_reducible refine Lead.bind ?_ (fun _ => ?_)
      | with_reducible refine Lead.map ?_
      | with_reducible refine Lead.iteH (fun _ => ?_) (fun _ => ?_)
      | split
      | dsimp only

theorem Lead.intBits (h : Tab V) (o : BinOp) (k : IntKind) (x y : Int) : Lead V (Op.intBits o k x y) := by
    unfold Op.intBits
    repeat' first
      | (with_reducible refine Lead.getObjH h _ ?gk_ (.inr ?gd_) (fun _ _ h => ?_); (case gk_ => intros; rfl); (case gd_ => intro w_; refine ⟨_, _, rfl, ?_⟩; simp [Soft]))
      | (with_reducible refine Lead.forInArray _ ?_ _ _; intro _ _)
      | (with_reducible refine Lead.forInRange _ ?_ _ _; intro _ _)
      | (with_reducible refine Lead.forInList _ ?_ _ _; intro _ _)
      | (with_reducible refine Lead.mapArray _ ?_ _; intro _)
      | (with_reducible refine Lead.foldlM _ ?_ _ _; intro _ _)
      | with_reducible assumption
      | with_reducible exact Lead.pure _
      | with_reducible exact Lead.stuck _
      | with_reducible exact Lead.unsupported _
      | with_reducible exact Lead.goPanic _
      | with_reducible refine Lead.bind ?_ (fun _ => ?_)
      | with_reducible refine Lead.map ?_
      | with_reducible refine Lead.iteH (fun _ => ?_) (fun _ => ?_)
      | split
      | dsimp only

theorem Lead.shift (h : Tab V) (o : BinOp) (k : IntKind) (x : Int) (j : IntKind) (y : Int) : Lead V (Op.shift o k x j y) := by
    unfold Op.shift
    repeat' first
      | (with_reducible refine Lead.getObjH h _ ?gk_ (.inr ?gd_) (fun _ _ h => ?_); (case gk_ => intros; rfl); (case gd_ => intro w_; refine ⟨_, _, rfl, ?_⟩; simp [Soft]))
      | (with_reducible refine Lead.forInArray _ ?_ _ _; intro _ _)
      | (with_reducible refine Lead.forInRange _ ?_ _ _; intro _ _)
      | (with_reducible refine Lead.forInList _ ?_ _ _; intro _ _)
      | (with_reducible refine Lead.mapArray _ ?_ _; intro _)
      | (with_reducible refine Lead.foldlM _ ?_ _ _; intro _ _)
      | with_reducible assumption
      | with_reducible exact Lead.pure _
      | with_reducible exact Lead.stuck _
      | with_reducible exact Lead.unsupported _
      | with_reducible exact Lead.goPanic _
      | with_reducible exact Lead.runtimePanic h _
      | with_reducible refine Lead.bind ?_ (fun _ => ?_)
      | with_reducible refine Lead.map ?_
      | with_reducible refine Lead.iteH (fun _ => ?_) (fun _ => ?_)
      | split
      | dsimp only

theorem Lead.intCmp (h : Tab V) (o : BinOp) (x y : Int) : Lead V (Op.intCmp o x y) := by
    unfold Op.intCmp
    repeat' first
      | (with_reducible refine Lead.getObjH h _ ?gk_ (.inr ?gd_) (fun _ _ h => ?_); (case gk_ => intros; rfl); (case gd_ => intro w_; refine ⟨_, _, rfl, ?_⟩; simp [Soft]))
      | (with_reducible refine Lead.forInArray _ ?_ _ _; intro _ _)
      | (with_reducible refine Lead.forInRange _ ?_ _ _; intro _ _)
      | (with_reducible refine Lead.forInList _ ?_ _ _; intro _ _)
      | (with_reducible refine Lead.mapArray _ ?_ _; intro _)
      | (with_reducible refine Lead.foldlM _ ?_ _ _; intro _ _)
      | with_reducible assumption
      | with_reducible exact Lead.pure _
      | with_reducible exact Lead.stuck _
      | with_reducible exact Lead.unsupported _
      | with_reducible exact Lead.goPanic _
      | with_reducible refine Lead.bind ?_ (fun _ => ?_)
      | with_reducible refine Lead.map ?_
      | with_reducible refine Lead.iteH (fun _ => ?_) (fun _ => ?_)
      | split
      | dsimp only

theorem Lead.stringOp (h : Tab V) (o : BinOp) (x y : ByteArray) : Lead V (Op.stringOp o x y) := by
    unfold Op.stringOp
    repeat' first
      | (with_reducible refine Lead.getObjH h _ ?gk_ (.inr ?gd_) (fun _ _ h => ?_); (case gk_ => intros; rfl); (case gd_ => intro w_; refine ⟨_, _, rfl, ?_⟩; simp [Soft]))
      | (with_reducible refine Lead.forInArray _ ?_ _ _; intro _ _)
      | (with_reducible refine Lead.forInRange _ ?_ _ _; intro _ _)
      | (with_reducible refine Lead.forInList _ ?_ _ _; intro _ _)
      | (with_reducible refine Lead.mapArray _ ?_ _; intro _)
      | (with_reducible refine Lead.foldlM _ ?_ _ _; intro _ _)
      | with_reducible assumption
      | with_reducible exact Lead.pure _
      | with_reducible exact Lead.stuck _
      | with_reducible exact Lead.unsupported _
      | with_reducible exact Lead.goPanic _
      | with_reducible refine Lead.bind ?_ (fun _ => ?_)
      | with_reducible refine Lead.map ?_
      | with_reducible refine Lead.iteH (fun _ => ?_) (fun _ => ?_)
      | split
      | dsimp only

theorem Lead.unary (h : Tab V) (o : UnOp) (x : Value) : Lead V (Op.unary o x) := by
    unfold Op.unary
    repeat' first
      | (with_reducible refine Lead.getObjH h _ ?gk_ (.inr ?gd_) (fun _ _ h => ?_); (case gk_ => intros; rfl); (case gd_ => intro w_; refine ⟨_, _, rfl, ?_⟩; simp [Soft]))
      | (with_reducible refine Lead.forInArray _ ?_ _ _; intro _ _)
      | (with_reducible refine Lead.forInRange _ ?_ _ _; intro _ _)
      | (with_reducible refine Lead.forInList _ ?_ _ _; intro _ _)
      | (with_reducible refine Lead.mapArray _ ?_ _; intro _)
      | (with_reducible refine Lead.foldlM _ ?_ _ _; intro _ _)
      | with_reducible assumption
      | with_reducible exact Lead.pure _
      | with_reducible exact Lead.stuck _
      | with_reducible exact Lead.unsupported _
      | with_reducible exact Lead.goPanic _
      | with_reducible exact Lead.intArith h _ _ _ _
      | with_reducible exact Lead.intBits h _ _ _ _
      | with_reducible refine Lead.bind ?_ (fun _ => ?_)
      | with_reducible refine Lead.map ?_
      | with_reducible refine Lead.iteH (fun _ => ?_) (fun _ => ?_)
      | split
      | dsimp only

theorem Lead.len_ (h : Tab V) (a : Array TypeId) (t : TypeId) (x : Array Value) : Lead V (Builtin.len_ a t x) := by
    unfold Builtin.len_
    repeat' first
      | (with_reducible refine Lead.getObjH h _ ?gk_ (.inr ?gd_) (fun _ _ h => ?_); (case gk_ => intros; rfl); (case gd_ => intro w_; refine ⟨_, _, rfl, ?_⟩; simp [Soft]))
      | (with_reducible refine Lead.forInArray _ ?_ _ _; intro _ _)
      | (with_reducible refine Lead.forInRange _ ?_ _ _; intro _ _)
      | (with_reducible refine Lead.forInList _ ?_ _ _; intro _ _)
      | (with_reducible refine Lead.mapArray _ ?_ _; intro _)
      | (with_reducible refine Lead.foldlM _ ?_ _ _; intro _ _)
      | with_reducible assumption
      | with_reducible exact Lead.pure _
      | with_reducible exact Lead.stuck _
      | with_reducible exact Lead.unsupported _
      | with_reducible exact Lead.goPanic _
      | with_reducible exact Lead.underlying h _
      | with_reducible exact Lead.slice h _ _ _ _ _
      | with_reducible refine Lead.bind ?_ (fun _ => ?_)
      | with_reducible refine Lead.map ?_
      | with_reducible refine Lead.iteH (fun _ => ?_) (fun _ => ?_)
      | split
      | dsimp only

theorem Lead.cap_ (h : Tab V) (a : Array TypeId) (t : TypeId) (x : Array Value) : Lead V (Builtin.cap_ a t x) := by
    unfold Builtin.cap_
    repeat' first
      | (with_reducible refine Lead.getObjH h _ ?gk_ (.inr ?gd_) (fun _ _ h => ?_); (case gk_ => intros; rfl); (case gd_ => intro w_; refine ⟨_, _, rfl, ?_⟩; simp [Soft]))
      | (with_reducible refine Lead.forInArray _ ?_ _ _; intro _ _)
      | (with_reducible refine Lead.forInRange _ ?_ _ _; intro _ _)
      | (with_reducible refine Lead.forInList _ ?_ _ _; intro _ _)
      | (with_reducible refine Lead.mapArray _ ?_ _; intro _)
      | (with_reducible refine Lead.foldlM _ ?_ _ _; intro _ _)
      | with_reducible assumption
      | with_reducible exact Lead.pure _
      | with_reducible exact Lead.stuck _
      | with_reducible exact Lead.unsupported _
      | with_reducible exact Lead.goPanic _
      | with_reducible exact Lead.underlying h _
      | with_reducible exact Lead.slice h _ _ _ _ _
      | with_reducible refine Lead.bind ?_ (fun _ => ?_)
      | with_reducible refine Lead.map ?_
      | with_reducible refine Lead.iteH (fun _ => ?_) (fun _ => ?_)
      | split
      | dsimp only

theorem Lead.lenOf (h : Tab V) (x : Value) : Lead V (Builtin.lenOf x) := by
    unfold Builtin.lenOf
    repeat' first
      | (with_reducible refine Lead.getObjH h _ ?gk_ (.inr ?gd_) (fun _ _ h => ?_); (case gk_ => intros; rfl); (case gd_ => intro w_; refine ⟨_, _, rfl, ?_⟩; simp [Soft]))
      | (with_reducible refine Lead.forInArray _ ?_ _ _; intro _ _)
      | (with_reducible refine Lead.forInRange _ ?_ _ _; intro _ _)
      | (with_reducible refine Lead.forInList _ ?_ _ _; intro _ _)
      | (with_reducible refine Lead.mapArray _ ?_ _; intro _)
      | (with_reducible refine Lead.foldlM _ ?_ _ _; intro _ _)
      | with_reducible assumption
      | with_reducible exact Lead.pure _
      | with_reducible exact Lead.stuck _
      | with_reducible exact Lead.unsupported _
      | with_reducible exact Lead.goPanic _
      | with_reducible exact Lead.slice h _ _ _ _ _
      | with_reducible refine Lead.bind ?_ (fun _ => ?_)
      | with_reducible refine Lead.map ?_
      | with_reducible refine Lead.iteH (fun _ => ?_) (fun _ => ?_)
      | split
      | dsimp only

theorem Lead.firstCells (h : Tab V) (s n : Nat) (x : Value) : Lead V (Builtin.firstCells s n x) := by
    unfold Builtin.firstCells
    repeat' first
      | (with_reducible refine Lead.getObjH h _ ?gk_ (.inr ?gd_) (fun _ _ h => ?_); (case gk_ => intros; rfl); (case gd_ => intro w_; refine ⟨_, _, rfl, ?_⟩; simp [Soft]))
      | (with_reducible refine Lead.forInArray _ ?_ _ _; intro _ _)
      | (with_reducible refine Lead.forInRange _ ?_ _ _; intro _ _)
      | (with_reducible refine Lead.forInList _ ?_ _ _; intro _ _)
      | (with_reducible refine Lead.mapArray _ ?_ _; intro _)
      | (with_reducible refine Lead.foldlM _ ?_ _ _; intro _ _)
      | with_reducible assumption
      | with_reducible exact Lead.pure _
      | with_reducible exact Lead.stuck _
      | with_reducible exact Lead.unsupported _
      | with_reducible exact Lead.goPanic _
      | with_reducible exact Lead.loadCells _ _
      | with_reducible exact Lead.slice h _ _ _ _ _
      | with_reducible exact Lead.extract h _ _
      | with_reducible refine Lead.bind ?_ (fun _ => ?_)
      | with_reducible refine Lead.map ?_
      | with_reducible refine Lead.iteH (fun _ => ?_) (fun _ => ?_)
      | split
      | dsimp only

theorem Lead.copy_ (h : Tab V) (a : Array TypeId) (t : TypeId) (x : Array Value) : Lead V (Builtin.copy_ a t x) := by
    unfold Builtin.copy_
    repeat' first
      | (with_reducible refine Lead.getObjH h _ ?gk_ (.inr ?gd_) (fun _ _ h => ?_); (case gk_ => intros; rfl); (case gd_ => intro w_; refine ⟨_, _, rfl, ?_⟩; simp [Soft]))
      | (with_reducible refine Lead.forInArray _ ?_ _ _; intro _ _)
      | (with_reducible refine Lead.forInRange _ ?_ _ _; intro _ _)
      | (with_reducible refine Lead.forInList _ ?_ _ _; intro _ _)
      | (with_reducible refine Lead.mapArray _ ?_ _; intro _)
      | (with_reducible refine Lead.foldlM _ ?_ _ _; intro _ _)
      | with_reducible assumption
      | with_reducible exact Lead.pure _
      | with_reducible exact Lead.stuck _
      | with_reducible exact Lead.unsupported _
      | with_reducible exact Lead.goPanic _
      | with_reducible exact Lead.underlying h _
      | with_reducible exact Lead.sizeOf h _
      | with_reducible exact Lead.storeCells _ _ _
      | with_reducible exact Lead.slice h _ _ _ _ _
      | with_reducible exact Lead.lenOf h _
      | with_reducible exact Lead.firstCells h _ _ _
      | with_reducible refine Lead.bind ?_ (fun _ => ?_)
      | with_reducible refine Lead.map ?_
      | with_reducible refine Lead.iteH (fun _ => ?_) (fun _ => ?_)
      | split
      | dsimp only

theorem Lead.checkKey (h : Tab V) : ∀ (n : Nat) (e : Bool) (t : TypeId) (v : Value), Lead V (Instr.checkKey e n t v) := by
    intro n
    induction n with
    | zero => intros; exact Lead.soft _
    | succ n ih =>
    intros
    unfold Instr.checkKey
    repeat' first
      | (with_reducible refine Lead.getObjH h _ ?gk_ (.inr ?gd_) (fun _ _ h => ?_); (case gk_ => intros; rfl); (case gd_ => intro w_; refine ⟨_, _, rfl, ?_⟩; simp [Soft]))
      | (with_reducible refine Lead.forInArray _ ?_ _ _; intro _ _)
      | (with_reducible refine Lead.forInRange _ ?_ _ _; intro _ _)
      | (with_reducible refine Lead.forInList _ ?_ _ _; intro _ _)
      | (with_reducible refine Lead.mapArray _ ?_ _; intro _)
      | (with_reducible refine Lead.foldlM _ ?_ _ _; intro _ _)
      | with_reducible assumption
      | with_reducible exact Lead.pure _
      | with_reducible exact Lead.stuck _
      | with_reducible exact Lead.unsupported _
      | with_reducible exact Lead.goPanic _
      | with_reducible exact Lead.runtimePanic h _
      | with_reducible exact Lead.underlying h _
      | with_reducible exact Lead.typeInfo h _
      | with_reducible exact Lead.sizeOf h _
      | with_reducible exact Lead.part h _ _ _
      | with_reducible exact Lead.typeStr h _
      | with_reducible exact Lead.typeStr h _
      | with_reducible apply ih
      | with_reducible refine Lead.bind ?_ (fun _ => ?_)
      | with_reducible refine Lead.map ?_
      | with_reducible refine Lead.iteH (fun _ => ?_) (fun _ => ?_)
      | split
      | dsimp only

theorem Lead.bytesToString (h : Tab V) (x : Value) : Lead V (Conv.bytesToString x) := by
    unfold Conv.bytesToString
    repeat' first
      | (with_reducible refine Lead.getObjH h _ ?gk_ (.inr ?gd_) (fun _ _ h => ?_); (case gk_ => intros; rfl); (case gd_ => intro w_; refine ⟨_, _, rfl, ?_⟩; simp [Soft]))
      | (with_reducible refine Lead.forInArray _ ?_ _ _; intro _ _)
      | (with_reducible refine Lead.forInRange _ ?_ _ _; intro _ _)
      | (with_reducible refine Lead.forInList _ ?_ _ _; intro _ _)
      | (with_reducible refine Lead.mapArray _ ?_ _; intro _)
      | (with_reducible refine Lead.foldlM _ ?_ _ _; intro _ _)
      | with_reducible assumption
      | with_reducible exact Lead.pure _
      | with_reducible exact Lead.stuck _
      | with_reducible exact Lead.unsupported _
      | with_reducible exact Lead.goPanic _
      | with_reducible exact Lead.loadCells _ _
      | with_reducible exact Lead.slice h _ _ _ _ _
      | with_reducible refine Lead.bind ?_ (fun _ => ?_)
      | with_reducible refine Lead.map ?_
      | with_reducible refine Lead.iteH (fun _ => ?_) (fun _ => ?_)
      | split
      | dsimp only

theorem Lead.equalIn (h : Tab V) : ∀ (n : Nat) (t : TypeId) (x y : Value), Lead V (Op.equalIn n t x y) := by
    intro n
    induction n with
    | zero => intros; exact Lead.soft _
    | succ n ih =>
    intros
    unfold Op.equalIn
    repeat' first
      | (with_reducible refine Lead.program ?eq_ ?_; (case eq_ => simp only [tables_holdsPacked h.tables, tables_stoodInHeld h.tables, tables_depth h.tables, tables_globals h.tables, tables_eqGuard h.tables, tables_info h.tables]))
      | (refine Lead.byteOfG h _ ?_; simp_all; done)
      | (refine Lead.byteOfG h _ ?_; simp_all; omega)
      | (with_reducible refine Lead.getObjH h _ ?gk_ (.inr ?gd_) (fun _ _ h => ?_); (case gk_ => intros; rfl); (case gd_ => intro w_; refine ⟨_, _, rfl, ?_⟩; simp [Soft]))
      | (with_reducible refine Lead.forInArray _ ?_ _ _; intro _ _)
      | (with_reducible refine Lead.forInRange _ ?_ _ _; intro _ _)
      | (with_reducible refine Lead.forInList _ ?_ _ _; intro _ _)
      | (with_reducible refine Lead.mapArray _ ?_ _; intro _)
      | (with_reducible refine Lead.foldlM _ ?_ _ _; intro _ _)
      | with_reducible assumption
      | with_reducible exact Lead.pure _
      | with_reducible exact Lead.stuck _
      | with_reducible exact Lead.unsupported _
      | with_reducible exact Lead.goPanic _

      | with_reducible exact Lead.runtimePanic h _
      | with_reducible exact Lead.boundsPanic h _ _ _ _
      | with_reducible exact Lead.underlying h _
      | with_reducible exact Lead.typeInfo h _
      | with_reducible exact Lead.zeroValue h _
      | with_reducible exact Lead.sizeOf h _
      | with_reducible exact Lead.isAgg h _
      | with_reducible exact Lead.loadCells _ _
      | with_reducible exact Lead.storeCells _ _ _
      | with_reducible exact Lead.loadVar h _ _
      | with_reducible exact Lead.storeVar h _ _ _
      | with_reducible exact Lead.newRow _ _
      | with_reducible exact Lead.newVar _ _
      | with_reducible exact Lead.elemOf h _
      | with_reducible exact Lead.part h _ _ _
      | with_reducible exact Lead.asIntOf _
      | with_reducible exact Lead.asInt _
      | with_reducible exact Lead.asBool _
      | with_reducible exact Lead.asString _
      | with_reducible exact Lead.asAgg _
      | with_reducible exact Lead.asAddr h _
      | with_reducible exact Lead.sureAddr _
      | with_reducible exact Lead.load _ _
      | with_reducible exact Lead.store _ _ _
      | with_reducible exact Lead.choose _
      | with_reducible exact Lead.frozen _
      | with_reducible exact Lead.askRoom _
      | with_reducible exact Lead.typeStr h _
      | with_reducible exact Lead.loadAt h _ _
      | with_reducible exact Lead.storeAt h _ _ _
      | with_reducible exact Lead.alloc h _ _ _
      | with_reducible exact Lead.box h _ _
      | with_reducible exact Lead.field h _ _ _
      | with_reducible exact Lead.index h _ _ _
      | with_reducible exact Lead.indexAt h _ _ _
      | with_reducible exact Lead.sliceBound h _ _ _
      | with_reducible exact Lead.sliceBounds h _ _ _ _ _ _
      | with_reducible exact Lead.slice h _ _ _ _ _
      | with_reducible exact Lead.sliceAt h _ _ _ _ _
      | with_reducible exact Lead.arrayAt h _ _
      | with_reducible exact Lead.makeInterface h _ _
      | with_reducible exact Lead.makeFunc h _ _ _
      | with_reducible exact Lead.extract h _ _
      | with_reducible exact Lead.buildSlice h _ _ _
      | with_reducible exact Lead.makeSlice h _ _ _
      | with_reducible exact Lead.intArith h _ _ _ _
      | with_reducible exact Lead.intDiv h _ _ _ _
      | with_reducible exact Lead.intBits h _ _ _ _
      | with_reducible exact Lead.shift h _ _ _ _ _
      | with_reducible exact Lead.intCmp h _ _ _
      | with_reducible exact Lead.stringOp h _ _ _
      | with_reducible exact Lead.unary h _ _
      | with_reducible exact Lead.len_ h _ _ _
      | with_reducible exact Lead.cap_ h _ _ _
      | with_reducible exact Lead.lenOf h _
      | with_reducible exact Lead.firstCells h _ _ _
      | with_reducible exact Lead.copy_ h _ _ _
      | with_reducible exact Lead.checkKey h _ _ _ _
      | with_reducible exact Lead.bytesToString h _
      | with_reducible exact Lead.behindNumber _
      | with_reducible exact Lead.sameAddr _ _
      | with_reducible exact Lead.samePointer _ _
      | with_reducible exact Lead.noView _
      | with_reducible exact Lead.viewAt _
      | with_reducible exact Lead.numberAt _
      | with_reducible exact Lead.typeStr h _
      | with_reducible apply ih
      | with_reducible refine Lead.bind ?_ (fun _ => ?_)
      | with_reducible refine Lead.map ?_
      | with_reducible refine Lead.iteH (fun _ => ?_) (fun _ => ?_)
      | split
      | dsimp only

theorem Lead.eqGuardIn (h : Tab V) : ∀ (n : Nat) (t : TypeId) (x y : Value), Lead V (Op.eqGuardIn n t x y) := by
    intro n
    induction n with
    | zero => intros; exact Lead.soft _
    | succ n ih =>
    intros
    unfold Op.eqGuardIn
    repeat' first
      | (with_reducible refine Lead.getObjH h _ ?gk_ (.inr ?gd_) (fun _ _ h => ?_); (case gk_ => intros; rfl); (case gd_ => intro w_; refine ⟨_, _, rfl, ?_⟩; simp [Soft]))
      | (with_reducible refine Lead.forInArray _ ?_ _ _; intro _ _)
      | (with_reducible refine Lead.forInRange _ ?_ _ _; intro _ _)
      | (with_reducible refine Lead.forInList _ ?_ _ _; intro _ _)
      | (with_reducible refine Lead.mapArray _ ?_ _; intro _)
      | (with_reducible refine Lead.foldlM _ ?_ _ _; intro _ _)
      | with_reducible assumption
      | with_reducible exact Lead.pure _
      | with_reducible exact Lead.stuck _
      | with_reducible exact Lead.unsupported _
      | with_reducible exact Lead.goPanic _
      | with_reducible exact Lead.underlying h _
      | with_reducible exact Lead.sizeOf h _
      | with_reducible exact Lead.part h _ _ _
      | with_reducible apply ih
      | with_reducible refine Lead.bind ?_ (fun _ => ?_)
      | with_reducible refine Lead.map ?_
      | with_reducible refine Lead.iteH (fun _ => ?_) (fun _ => ?_)
      | split
      | dsimp only

theorem Lead.equal (h : Tab V) (t : TypeId) (x y : Value) : Lead V (Op.equal t x y) := by
    unfold Op.equal
    repeat' first
      | (with_reducible refine Lead.getObjH h _ ?gk_ (.inr ?gd_) (fun _ _ h => ?_); (case gk_ => intros; rfl); (case gd_ => intro w_; refine ⟨_, _, rfl, ?_⟩; simp [Soft]))
      | (with_reducible refine Lead.forInArray _ ?_ _ _; intro _ _)
      | (with_reducible refine Lead.forInRange _ ?_ _ _; intro _ _)
      | (with_reducible refine Lead.forInList _ ?_ _ _; intro _ _)
      | (with_reducible refine Lead.mapArray _ ?_ _; intro _)
      | (with_reducible refine Lead.foldlM _ ?_ _ _; intro _ _)
      | with_reducible assumption
      | with_reducible exact Lead.pure _
      | with_reducible exact Lead.stuck _
      | with_reducible exact Lead.unsupported _
      | with_reducible exact Lead.goPanic _
      | with_reducible exact Lead.equalIn h _ _ _ _
      | with_reducible refine Lead.bind ?_ (fun _ => ?_)
      | with_reducible refine Lead.map ?_
      | with_reducible refine Lead.iteH (fun _ => ?_) (fun _ => ?_)
      | split
      | dsimp only

theorem Lead.eqGuard (h : Tab V) (o : BinOp) (t : TypeId) (x y : Operand) (a b : Value) : Lead V (eqGuard o t x y a b) := by
    unfold Go.eqGuard
    repeat' first
      | (with_reducible refine Lead.program ?eq_ ?_; (case eq_ => simp only [tables_holdsPacked h.tables, tables_stoodInHeld h.tables, tables_depth h.tables, tables_globals h.tables, tables_eqGuard h.tables, tables_info h.tables]))
      | (with_reducible refine Lead.getObjH h _ ?gk_ (.inr ?gd_) (fun _ _ h => ?_); (case gk_ => intros; rfl); (case gd_ => intro w_; refine ⟨_, _, rfl, ?_⟩; simp [Soft]))
      | (with_reducible refine Lead.forInArray _ ?_ _ _; intro _ _)
      | (with_reducible refine Lead.forInRange _ ?_ _ _; intro _ _)
      | (with_reducible refine Lead.forInList _ ?_ _ _; intro _ _)
      | (with_reducible refine Lead.mapArray _ ?_ _; intro _)
      | (with_reducible refine Lead.foldlM _ ?_ _ _; intro _ _)
      | with_reducible assumption
      | with_reducible exact Lead.pure _
      | with_reducible exact Lead.stuck _
      | with_reducible exact Lead.unsupported _
      | with_reducible exact Lead.goPanic _
      | with_reducible exact Lead.part h _ _ _
      | with_reducible exact Lead.eqGuardIn h _ _ _ _
      | with_reducible refine Lead.bind ?_ (fun _ => ?_)
      | with_reducible refine Lead.map ?_
      | with_reducible refine Lead.iteH (fun _ => ?_) (fun _ => ?_)
      | split
      | dsimp only

theorem Lead.floatArith (h : Tab V) (o : BinOp) (k : FloatKind) (x y : Nat) : Lead V (Op.floatArith o k x y) := by
    unfold Op.floatArith
    repeat' first
      | (with_reducible refine Lead.getObjH h _ ?gk_ (.inr ?gd_) (fun _ _ h => ?_); (case gk_ => intros; rfl); (case gd_ => intro w_; refine ⟨_, _, rfl, ?_⟩; simp [Soft]))
      | (with_reducible refine Lead.forInArray _ ?_ _ _; intro _ _)
      | (with_reducible refine Lead.forInRange _ ?_ _ _; intro _ _)
      | (with_reducible refine Lead.forInList _ ?_ _ _; intro _ _)
      | (with_reducible refine Lead.mapArray _ ?_ _; intro _)
      | (with_reducible refine Lead.foldlM _ ?_ _ _; intro _ _)
      | with_reducible assumption
      | with_reducible exact Lead.pure _
      | with_reducible exact Lead.stuck _
      | with_reducible exact Lead.unsupported _
      | with_reducible exact Lead.goPanic _
      | with_reducible exact Lead.choose _
      | with_reducible refine Lead.bind ?_ (fun _ => ?_)
      | with_reducible refine Lead.map ?_
      | with_reducible refine Lead.iteH (fun _ => ?_) (fun _ => ?_)
      | split
      | dsimp only

theorem Lead.floatCmp (h : Tab V) (o : BinOp) (k : FloatKind) (x y : Nat) : Lead V (Op.floatCmp o k x y) := by
    unfold Op.floatCmp
    repeat' first
      | (with_reducible refine Lead.getObjH h _ ?gk_ (.inr ?gd_) (fun _ _ h => ?_); (case gk_ => intros; rfl); (case gd_ => intro w_; refine ⟨_, _, rfl, ?_⟩; simp [Soft]))
      | (with_reducible refine Lead.forInArray _ ?_ _ _; intro _ _)
      | (with_reducible refine Lead.forInRange _ ?_ _ _; intro _ _)
      | (with_reducible refine Lead.forInList _ ?_ _ _; intro _ _)
      | (with_reducible refine Lead.mapArray _ ?_ _; intro _)
      | (with_reducible refine Lead.foldlM _ ?_ _ _; intro _ _)
      | with_reducible assumption
      | with_reducible exact Lead.pure _
      | with_reducible exact Lead.stuck _
      | with_reducible exact Lead.unsupported _
      | with_reducible exact Lead.goPanic _
      | with_reducible refine Lead.bind ?_ (fun _ => ?_)
      | with_reducible refine Lead.map ?_
      | with_reducible refine Lead.iteH (fun _ => ?_) (fun _ => ?_)
      | split
      | dsimp only

theorem Lead.floatToFloat (h : Tab V) (k : FloatKind) (x : Nat) (d : FloatKind) : Lead V (Conv.floatToFloat k x d) := by
    unfold Conv.floatToFloat
    repeat' first
      | (with_reducible refine Lead.getObjH h _ ?gk_ (.inr ?gd_) (fun _ _ h => ?_); (case gk_ => intros; rfl); (case gd_ => intro w_; refine ⟨_, _, rfl, ?_⟩; simp [Soft]))
      | (with_reducible refine Lead.forInArray _ ?_ _ _; intro _ _)
      | (with_reducible refine Lead.forInRange _ ?_ _ _; intro _ _)
      | (with_reducible refine Lead.forInList _ ?_ _ _; intro _ _)
      | (with_reducible refine Lead.mapArray _ ?_ _; intro _)
      | (with_reducible refine Lead.foldlM _ ?_ _ _; intro _ _)
      | with_reducible assumption
      | with_reducible exact Lead.pure _
      | with_reducible exact Lead.stuck _
      | with_reducible exact Lead.unsupported _
      | with_reducible exact Lead.goPanic _
      | with_reducible exact Lead.choose _
      | with_reducible refine Lead.bind ?_ (fun _ => ?_)
      | with_reducible refine Lead.map ?_
      | with_reducible refine Lead.iteH (fun _ => ?_) (fun _ => ?_)
      | split
      | dsimp only

theorem Lead.floatToInt (h : Tab V) (k : FloatKind) (x : Nat) (d : IntKind) : Lead V (Conv.floatToInt k x d) := by
    unfold Conv.floatToInt
    repeat' first
      | (with_reducible refine Lead.getObjH h _ ?gk_ (.inr ?gd_) (fun _ _ h => ?_); (case gk_ => intros; rfl); (case gd_ => intro w_; refine ⟨_, _, rfl, ?_⟩; simp [Soft]))
      | (with_reducible refine Lead.forInArray _ ?_ _ _; intro _ _)
      | (with_reducible refine Lead.forInRange _ ?_ _ _; intro _ _)
      | (with_reducible refine Lead.forInList _ ?_ _ _; intro _ _)
      | (with_reducible refine Lead.mapArray _ ?_ _; intro _)
      | (with_reducible refine Lead.foldlM _ ?_ _ _; intro _ _)
      | with_reducible assumption
      | with_reducible exact Lead.pure _
      | with_reducible exact Lead.stuck _
      | with_reducible exact Lead.unsupported _
      | with_reducible exact Lead.goPanic _
      | with_reducible exact Lead.choose _
      | with_reducible refine Lead.bind ?_ (fun _ => ?_)
      | with_reducible refine Lead.map ?_
      | with_reducible refine Lead.iteH (fun _ => ?_) (fun _ => ?_)
      | split
      | dsimp only

theorem Lead.cArith (h : Tab V) (o : BinOp) (k : FloatKind) (x y : Nat) : Lead V (Op.Complex.arith o k x y) := by
    unfold Op.Complex.arith
    repeat' first
      | (with_reducible refine Lead.getObjH h _ ?gk_ (.inr ?gd_) (fun _ _ h => ?_); (case gk_ => intros; rfl); (case gd_ => intro w_; refine ⟨_, _, rfl, ?_⟩; simp [Soft]))
      | (with_reducible refine Lead.forInArray _ ?_ _ _; intro _ _)
      | (with_reducible refine Lead.forInRange _ ?_ _ _; intro _ _)
      | (with_reducible refine Lead.forInList _ ?_ _ _; intro _ _)
      | (with_reducible refine Lead.mapArray _ ?_ _; intro _)
      | (with_reducible refine Lead.foldlM _ ?_ _ _; intro _ _)
      | with_reducible assumption
      | with_reducible exact Lead.pure _
      | with_reducible exact Lead.stuck _
      | with_reducible exact Lead.unsupported _
      | with_reducible exact Lead.goPanic _
      | with_reducible exact Lead.floatArith h _ _ _ _
      | with_reducible refine Lead.bind ?_ (fun _ => ?_)
      | with_reducible refine Lead.map ?_
      | with_reducible refine Lead.iteH (fun _ => ?_) (fun _ => ?_)
      | split
      | dsimp only

theorem Lead.cCmp (h : Tab V) (o : BinOp) (k : FloatKind) (x y : Nat) : Lead V (Op.Complex.cmp o k x y) := by
    unfold Op.Complex.cmp
    repeat' first
      | (with_reducible refine Lead.getObjH h _ ?gk_ (.inr ?gd_) (fun _ _ h => ?_); (case gk_ => intros; rfl); (case gd_ => intro w_; refine ⟨_, _, rfl, ?_⟩; simp [Soft]))
      | (with_reducible refine Lead.forInArray _ ?_ _ _; intro _ _)
      | (with_reducible refine Lead.forInRange _ ?_ _ _; intro _ _)
      | (with_reducible refine Lead.forInList _ ?_ _ _; intro _ _)
      | (with_reducible refine Lead.mapArray _ ?_ _; intro _)
      | (with_reducible refine Lead.foldlM _ ?_ _ _; intro _ _)
      | with_reducible assumption
      | with_reducible exact Lead.pure _
      | with_reducible exact Lead.stuck _
      | with_reducible exact Lead.unsupported _
      | with_reducible exact Lead.goPanic _
      | with_reducible exact Lead.asBool _
      | with_reducible exact Lead.floatCmp h _ _ _ _
      | with_reducible refine Lead.bind ?_ (fun _ => ?_)
      | with_reducible refine Lead.map ?_
      | with_reducible refine Lead.iteH (fun _ => ?_) (fun _ => ?_)
      | split
      | dsimp only

theorem Lead.cConv (h : Tab V) (k : FloatKind) (x : Nat) (d : FloatKind) : Lead V (Op.Complex.conv k x d) := by
    unfold Op.Complex.conv
    repeat' first
      | (with_reducible refine Lead.getObjH h _ ?gk_ (.inr ?gd_) (fun _ _ h => ?_); (case gk_ => intros; rfl); (case gd_ => intro w_; refine ⟨_, _, rfl, ?_⟩; simp [Soft]))
      | (with_reducible refine Lead.forInArray _ ?_ _ _; intro _ _)
      | (with_reducible refine Lead.forInRange _ ?_ _ _; intro _ _)
      | (with_reducible refine Lead.forInList _ ?_ _ _; intro _ _)
      | (with_reducible refine Lead.mapArray _ ?_ _; intro _)
      | (with_reducible refine Lead.foldlM _ ?_ _ _; intro _ _)
      | with_reducible assumption
      | with_reducible exact Lead.pure _
      | with_reducible exact Lead.stuck _
      | with_reducible exact Lead.unsupported _
      | with_reducible exact Lead.goPanic _
      | with_reducible exact Lead.floatToFloat h _ _ _
      | with_reducible refine Lead.bind ?_ (fun _ => ?_)
      | with_reducible refine Lead.map ?_
      | with_reducible refine Lead.iteH (fun _ => ?_) (fun _ => ?_)
      | split
      | dsimp only

theorem Lead.cadd (h : Tab V) (x y : Nat) : Lead V (Op.Complex.add x y) := by
    unfold Op.Complex.add
    repeat' first
      | (with_reducible refine Lead.program ?eq_ ?_; (case eq_ => simp only [tables_holdsPacked h.tables, tables_stoodInHeld h.tables, tables_depth h.tables, tables_globals h.tables, tables_eqGuard h.tables, tables_info h.tables]))
      | (refine Lead.byteOfG h _ ?_; simp_all; done)
      | (refine Lead.byteOfG h _ ?_; simp_all; omega)
      | (with_reducible refine Lead.getObjH h _ ?gk_ (.inr ?gd_) (fun _ _ h => ?_); (case gk_ => intros; rfl); (case gd_ => intro w_; refine ⟨_, _, rfl, ?_⟩; simp [Soft]))
      | (with_reducible refine Lead.forInArray _ ?_ _ _; intro _ _)
      | (with_reducible refine Lead.forInRange _ ?_ _ _; intro _ _)
      | (with_reducible refine Lead.forInList _ ?_ _ _; intro _ _)
      | (with_reducible refine Lead.mapArray _ ?_ _; intro _)
      | (with_reducible refine Lead.foldlM _ ?_ _ _; intro _ _)
      | with_reducible assumption
      | with_reducible exact Lead.pure _
      | with_reducible exact Lead.stuck _
      | with_reducible exact Lead.unsupported _
      | with_reducible exact Lead.goPanic _

      | with_reducible exact Lead.runtimePanic h _
      | with_reducible exact Lead.boundsPanic h _ _ _ _
      | with_reducible exact Lead.underlying h _
      | with_reducible exact Lead.typeInfo h _
      | with_reducible exact Lead.zeroValue h _
      | with_reducible exact Lead.sizeOf h _
      | with_reducible exact Lead.isAgg h _
      | with_reducible exact Lead.loadCells _ _
      | with_reducible exact Lead.storeCells _ _ _
      | with_reducible exact Lead.loadVar h _ _
      | with_reducible exact Lead.storeVar h _ _ _
      | with_reducible exact Lead.newRow _ _
      | with_reducible exact Lead.newVar _ _
      | with_reducible exact Lead.elemOf h _
      | with_reducible exact Lead.part h _ _ _
      | with_reducible exact Lead.asIntOf _
      | with_reducible exact Lead.asInt _
      | with_reducible exact Lead.asBool _
      | with_reducible exact Lead.asString _
      | with_reducible exact Lead.asAgg _
      | with_reducible exact Lead.asAddr h _
      | with_reducible exact Lead.sureAddr _
      | with_reducible exact Lead.load _ _
      | with_reducible exact Lead.store _ _ _
      | with_reducible exact Lead.choose _
      | with_reducible exact Lead.frozen _
      | with_reducible exact Lead.askRoom _
      | with_reducible exact Lead.typeStr h _
      | with_reducible exact Lead.loadAt h _ _
      | with_reducible exact Lead.storeAt h _ _ _
      | with_reducible exact Lead.alloc h _ _ _
      | with_reducible exact Lead.box h _ _
      | with_reducible exact Lead.field h _ _ _
      | with_reducible exact Lead.index h _ _ _
      | with_reducible exact Lead.indexAt h _ _ _
      | with_reducible exact Lead.sliceBound h _ _ _
      | with_reducible exact Lead.sliceBounds h _ _ _ _ _ _
      | with_reducible exact Lead.slice h _ _ _ _ _
      | with_reducible exact Lead.sliceAt h _ _ _ _ _
      | with_reducible exact Lead.arrayAt h _ _
      | with_reducible exact Lead.makeInterface h _ _
      | with_reducible exact Lead.makeFunc h _ _ _
      | with_reducible exact Lead.extract h _ _
      | with_reducible exact Lead.buildSlice h _ _ _
      | with_reducible exact Lead.makeSlice h _ _ _
      | with_reducible exact Lead.intArith h _ _ _ _
      | with_reducible exact Lead.intDiv h _ _ _ _
      | with_reducible exact Lead.intBits h _ _ _ _
      | with_reducible exact Lead.shift h _ _ _ _ _
      | with_reducible exact Lead.intCmp h _ _ _
      | with_reducible exact Lead.stringOp h _ _ _
      | with_reducible exact Lead.unary h _ _
      | with_reducible exact Lead.len_ h _ _ _
      | with_reducible exact Lead.cap_ h _ _ _
      | with_reducible exact Lead.lenOf h _
      | with_reducible exact Lead.firstCells h _ _ _
      | with_reducible exact Lead.copy_ h _ _ _
      | with_reducible exact Lead.checkKey h _ _ _ _
      | with_reducible exact Lead.bytesToString h _
      | with_reducible exact Lead.behindNumber _
      | with_reducible exact Lead.sameAddr _ _
      | with_reducible exact Lead.samePointer _ _
      | with_reducible exact Lead.noView _
      | with_reducible exact Lead.viewAt _
      | with_reducible exact Lead.numberAt _
      | with_reducible exact Lead.equalIn h _ _ _ _
      | with_reducible exact Lead.eqGuardIn h _ _ _ _
      | with_reducible exact Lead.equal h _ _ _
      | with_reducible exact Lead.eqGuard h _ _ _ _ _ _
      | with_reducible exact Lead.floatArith h _ _ _ _
      | with_reducible exact Lead.floatCmp h _ _ _ _
      | with_reducible exact Lead.floatToFloat h _ _ _
      | with_reducible exact Lead.floatToInt h _ _ _
      | with_reducible exact Lead.cArith h _ _ _ _
      | with_reducible exact Lead.cCmp h _ _ _ _
      | with_reducible exact Lead.cConv h _ _ _
      | with_reducible refine Lead.bind ?_ (fun _ => ?_)
      | with_reducible refine Lead.map ?_
      | with_reducible refine Lead.iteH (fun _ => ?_) (fun _ => ?_)
      | split
      | dsimp only

theorem Lead.csub (h : Tab V) (x y : Nat) : Lead V (Op.Complex.sub x y) := by
    unfold Op.Complex.sub
    repeat' first
      | (with_reducible refine Lead.program ?eq_ ?_; (case eq_ => simp only [tables_holdsPacked h.tables, tables_stoodInHeld h.tables, tables_depth h.tables, tables_globals h.tables, tables_eqGuard h.tables, tables_info h.tables]))
      | (refine Lead.byteOfG h _ ?_; simp_all; done)
      | (refine Lead.byteOfG h _ ?_; simp_all; omega)
      | (with_reducible refine Lead.getObjH h _ ?gk_ (.inr ?gd_) (fun _ _ h => ?_); (case gk_ => intros; rfl); (case gd_ => intro w_; refine ⟨_, _, rfl, ?_⟩; simp [Soft]))
      | (with_reducible refine Lead.forInArray _ ?_ _ _; intro _ _)
      | (with_reducible refine Lead.forInRange _ ?_ _ _; intro _ _)
      | (with_reducible refine Lead.forInList _ ?_ _ _; intro _ _)
      | (with_reducible refine Lead.mapArray _ ?_ _; intro _)
      | (with_reducible refine Lead.foldlM _ ?_ _ _; intro _ _)
      | with_reducible assumption
      | with_reducible exact Lead.pure _
      | with_reducible exact Lead.stuck _
      | with_reducible exact Lead.unsupported _
      | with_reducible exact Lead.goPanic _

      | with_reducible exact Lead.runtimePanic h _
      | with_reducible exact Lead.boundsPanic h _ _ _ _
      | with_reducible exact Lead.underlying h _
      | with_reducible exact Lead.typeInfo h _
      | with_reducible exact Lead.zeroValue h _
      | with_reducible exact Lead.sizeOf h _
      | with_reducible exact Lead.isAgg h _
      | with_reducible exact Lead.loadCells _ _
      | with_reducible exact Lead.storeCells _ _ _
      | with_reducible exact Lead.loadVar h _ _
      | with_reducible exact Lead.storeVar h _ _ _
      | with_reducible exact Lead.newRow _ _
      | with_reducible exact Lead.newVar _ _
      | with_reducible exact Lead.elemOf h _
      | with_reducible exact Lead.part h _ _ _
      | with_reducible exact Lead.asIntOf _
      | with_reducible exact Lead.asInt _
      | with_reducible exact Lead.asBool _
      | with_reducible exact Lead.asString _
      | with_reducible exact Lead.asAgg _
      | with_reducible exact Lead.asAddr h _
      | with_reducible exact Lead.sureAddr _
      | with_reducible exact Lead.load _ _
      | with_reducible exact Lead.store _ _ _
      | with_reducible exact Lead.choose _
      | with_reducible exact Lead.frozen _
      | with_reducible exact Lead.askRoom _
      | with_reducible exact Lead.typeStr h _
      | with_reducible exact Lead.loadAt h _ _
      | with_reducible exact Lead.storeAt h _ _ _
      | with_reducible exact Lead.alloc h _ _ _
      | with_reducible exact Lead.box h _ _
      | with_reducible exact Lead.field h _ _ _
      | with_reducible exact Lead.index h _ _ _
      | with_reducible exact Lead.indexAt h _ _ _
      | with_reducible exact Lead.sliceBound h _ _ _
      | with_reducible exact Lead.sliceBounds h _ _ _ _ _ _
      | with_reducible exact Lead.slice h _ _ _ _ _
      | with_reducible exact Lead.sliceAt h _ _ _ _ _
      | with_reducible exact Lead.arrayAt h _ _
      | with_reducible exact Lead.makeInterface h _ _
      | with_reducible exact Lead.makeFunc h _ _ _
      | with_reducible exact Lead.extract h _ _
      | with_reducible exact Lead.buildSlice h _ _ _
      | with_reducible exact Lead.makeSlice h _ _ _
      | with_reducible exact Lead.intArith h _ _ _ _
      | with_reducible exact Lead.intDiv h _ _ _ _
      | with_reducible exact Lead.intBits h _ _ _ _
      | with_reducible exact Lead.shift h _ _ _ _ _
      | with_reducible exact Lead.intCmp h _ _ _
      | with_reducible exact Lead.stringOp h _ _ _
      | with_reducible exact Lead.unary h _ _
      | with_reducible exact Lead.len_ h _ _ _
      | with_reducible exact Lead.cap_ h _ _ _
      | with_reducible exact Lead.lenOf h _
      | with_reducible exact Lead.firstCells h _ _ _
      | with_reducible exact Lead.copy_ h _ _ _
      | with_reducible exact Lead.checkKey h _ _ _ _
      | with_reducible exact Lead.bytesToString h _
      | with_reducible exact Lead.behindNumber _
      | with_reducible exact Lead.sameAddr _ _
      | with_reducible exact Lead.samePointer _ _
      | with_reducible exact Lead.noView _
      | with_reducible exact Lead.viewAt _
      | with_reducible exact Lead.numberAt _
      | with_reducible exact Lead.equalIn h _ _ _ _
      | with_reducible exact Lead.eqGuardIn h _ _ _ _
      | with_reducible exact Lead.equal h _ _ _
      | with_reducible exact Lead.eqGuard h _ _ _ _ _ _
      | with_reducible exact Lead.floatArith h _ _ _ _
      | with_reducible exact Lead.floatCmp h _ _ _ _
      | with_reducible exact Lead.floatToFloat h _ _ _
      | with_reducible exact Lead.floatToInt h _ _ _
      | with_reducible exact Lead.cArith h _ _ _ _
      | with_reducible exact Lead.cCmp h _ _ _ _
      | with_reducible exact Lead.cConv h _ _ _
      | with_reducible exact Lead.cadd h _ _
      | with_reducible refine Lead.bind ?_ (fun _ => ?_)
      | with_reducible refine Lead.map ?_
      | with_reducible refine Lead.iteH (fun _ => ?_) (fun _ => ?_)
      | split
      | dsimp only

theorem Lead.cmul (h : Tab V) (x y : Nat) : Lead V (Op.Complex.mul x y) := by
    unfold Op.Complex.mul
    repeat' first
      | (with_reducible refine Lead.program ?eq_ ?_; (case eq_ => simp only [tables_holdsPacked h.tables, tables_stoodInHeld h.tables, tables_depth h.tables, tables_globals h.tables, tables_eqGuard h.tables, tables_info h.tables]))
      | (refine Lead.byteOfG h _ ?_; simp_all; done)
      | (refine Lead.byteOfG h _ ?_; simp_all; omega)
      | (with_reducible refine Lead.getObjH h _ ?gk_ (.inr ?gd_) (fun _ _ h => ?_); (case gk_ => intros; rfl); (case gd_ => intro w_; refine ⟨_, _, rfl, ?_⟩; simp [Soft]))
      | (with_reducible refine Lead.forInArray _ ?_ _ _; intro _ _)
      | (with_reducible refine Lead.forInRange _ ?_ _ _; intro _ _)
      | (with_reducible refine Lead.forInList _ ?_ _ _; intro _ _)
      | (with_reducible refine Lead.mapArray _ ?_ _; intro _)
      | (with_reducible refine Lead.foldlM _ ?_ _ _; intro _ _)
      | with_reducible assumption
      | with_reducible exact Lead.pure _
      | with_reducible exact Lead.stuck _
      | with_reducible exact Lead.unsupported _
      | with_reducible exact Lead.goPanic _

      | with_reducible exact Lead.runtimePanic h _
      | with_reducible exact Lead.boundsPanic h _ _ _ _
      | with_reducible exact Lead.underlying h _
      | with_reducible exact Lead.typeInfo h _
      | with_reducible exact Lead.zeroValue h _
      | with_reducible exact Lead.sizeOf h _
      | with_reducible exact Lead.isAgg h _
      | with_reducible exact Lead.loadCells _ _
      | with_reducible exact Lead.storeCells _ _ _
      | with_reducible exact Lead.loadVar h _ _
      | with_reducible exact Lead.storeVar h _ _ _
      | with_reducible exact Lead.newRow _ _
      | with_reducible exact Lead.newVar _ _
      | with_reducible exact Lead.elemOf h _
      | with_reducible exact Lead.part h _ _ _
      | with_reducible exact Lead.asIntOf _
      | with_reducible exact Lead.asInt _
      | with_reducible exact Lead.asBool _
      | with_reducible exact Lead.asString _
      | with_reducible exact Lead.asAgg _
      | with_reducible exact Lead.asAddr h _
      | with_reducible exact Lead.sureAddr _
      | with_reducible exact Lead.load _ _
      | with_reducible exact Lead.store _ _ _
      | with_reducible exact Lead.choose _
      | with_reducible exact Lead.frozen _
      | with_reducible exact Lead.askRoom _
      | with_reducible exact Lead.typeStr h _
      | with_reducible exact Lead.loadAt h _ _
      | with_reducible exact Lead.storeAt h _ _ _
      | with_reducible exact Lead.alloc h _ _ _
      | with_reducible exact Lead.box h _ _
      | with_reducible exact Lead.field h _ _ _
      | with_reducible exact Lead.index h _ _ _
      | with_reducible exact Lead.indexAt h _ _ _
      | with_reducible exact Lead.sliceBound h _ _ _
      | with_reducible exact Lead.sliceBounds h _ _ _ _ _ _
      | with_reducible exact Lead.slice h _ _ _ _ _
      | with_reducible exact Lead.sliceAt h _ _ _ _ _
      | with_reducible exact Lead.arrayAt h _ _
      | with_reducible exact Lead.makeInterface h _ _
      | with_reducible exact Lead.makeFunc h _ _ _
      | with_reducible exact Lead.extract h _ _
      | with_reducible exact Lead.buildSlice h _ _ _
      | with_reducible exact Lead.makeSlice h _ _ _
      | with_reducible exact Lead.intArith h _ _ _ _
      | with_reducible exact Lead.intDiv h _ _ _ _
      | with_reducible exact Lead.intBits h _ _ _ _
      | with_reducible exact Lead.shift h _ _ _ _ _
      | with_reducible exact Lead.intCmp h _ _ _
      | with_reducible exact Lead.stringOp h _ _ _
      | with_reducible exact Lead.unary h _ _
      | with_reducible exact Lead.len_ h _ _ _
      | with_reducible exact Lead.cap_ h _ _ _
      | with_reducible exact Lead.lenOf h _
      | with_reducible exact Lead.firstCells h _ _ _
      | with_reducible exact Lead.copy_ h _ _ _
      | with_reducible exact Lead.checkKey h _ _ _ _
      | with_reducible exact Lead.bytesToString h _
      | with_reducible exact Lead.behindNumber _
      | with_reducible exact Lead.sameAddr _ _
      | with_reducible exact Lead.samePointer _ _
      | with_reducible exact Lead.noView _
      | with_reducible exact Lead.viewAt _
      | with_reducible exact Lead.numberAt _
      | with_reducible exact Lead.equalIn h _ _ _ _
      | with_reducible exact Lead.eqGuardIn h _ _ _ _
      | with_reducible exact Lead.equal h _ _ _
      | with_reducible exact Lead.eqGuard h _ _ _ _ _ _
      | with_reducible exact Lead.floatArith h _ _ _ _
      | with_reducible exact Lead.floatCmp h _ _ _ _
      | with_reducible exact Lead.floatToFloat h _ _ _
      | with_reducible exact Lead.floatToInt h _ _ _
      | with_reducible exact Lead.cArith h _ _ _ _
      | with_reducible exact Lead.cCmp h _ _ _ _
      | with_reducible exact Lead.cConv h _ _ _
      | with_reducible exact Lead.cadd h _ _
      | with_reducible exact Lead.csub h _ _
      | with_reducible refine Lead.bind ?_ (fun _ => ?_)
      | with_reducible refine Lead.map ?_
      | with_reducible refine Lead.iteH (fun _ => ?_) (fun _ => ?_)
      | split
      | dsimp only

theorem Lead.cquo (h : Tab V) (x y : Nat) : Lead V (Op.Complex.quo x y) := by
    unfold Op.Complex.quo
    repeat' first
      | (with_reducible refine Lead.program ?eq_ ?_; (case eq_ => simp only [tables_holdsPacked h.tables, tables_stoodInHeld h.tables, tables_depth h.tables, tables_globals h.tables, tables_eqGuard h.tables, tables_info h.tables]))
      | (refine Lead.byteOfG h _ ?_; simp_all; done)
      | (refine Lead.byteOfG h _ ?_; simp_all; omega)
      | (with_reducible refine Lead.getObjH h _ ?gk_ (.inr ?gd_) (fun _ _ h => ?_); (case gk_ => intros; rfl); (case gd_ => intro w_; refine ⟨_, _, rfl, ?_⟩; simp [Soft]))
      | (with_reducible refine Lead.forInArray _ ?_ _ _; intro _ _)
      | (with_reducible refine Lead.forInRange _ ?_ _ _; intro _ _)
      | (with_reducible refine Lead.forInList _ ?_ _ _; intro _ _)
      | (with_reducible refine Lead.mapArray _ ?_ _; intro _)
      | (with_reducible refine Lead.foldlM _ ?_ _ _; intro _ _)
      | with_reducible assumption
      | with_reducible exact Lead.pure _
      | with_reducible exact Lead.stuck _
      | with_reducible exact Lead.unsupported _
      | with_reducible exact Lead.goPanic _

      | with_reducible exact Lead.runtimePanic h _
      | with_reducible exact Lead.boundsPanic h _ _ _ _
      | with_reducible exact Lead.underlying h _
      | with_reducible exact Lead.typeInfo h _
      | with_reducible exact Lead.zeroValue h _
      | with_reducible exact Lead.sizeOf h _
      | with_reducible exact Lead.isAgg h _
      | with_reducible exact Lead.loadCells _ _
      | with_reducible exact Lead.storeCells _ _ _
      | with_reducible exact Lead.loadVar h _ _
      | with_reducible exact Lead.storeVar h _ _ _
      | with_reducible exact Lead.newRow _ _
      | with_reducible exact Lead.newVar _ _
      | with_reducible exact Lead.elemOf h _
      | with_reducible exact Lead.part h _ _ _
      | with_reducible exact Lead.asIntOf _
      | with_reducible exact Lead.asInt _
      | with_reducible exact Lead.asBool _
      | with_reducible exact Lead.asString _
      | with_reducible exact Lead.asAgg _
      | with_reducible exact Lead.asAddr h _
      | with_reducible exact Lead.sureAddr _
      | with_reducible exact Lead.load _ _
      | with_reducible exact Lead.store _ _ _
      | with_reducible exact Lead.choose _
      | with_reducible exact Lead.frozen _
      | with_reducible exact Lead.askRoom _
      | with_reducible exact Lead.typeStr h _
      | with_reducible exact Lead.loadAt h _ _
      | with_reducible exact Lead.storeAt h _ _ _
      | with_reducible exact Lead.alloc h _ _ _
      | with_reducible exact Lead.box h _ _
      | with_reducible exact Lead.field h _ _ _
      | with_reducible exact Lead.index h _ _ _
      | with_reducible exact Lead.indexAt h _ _ _
      | with_reducible exact Lead.sliceBound h _ _ _
      | with_reducible exact Lead.sliceBounds h _ _ _ _ _ _
      | with_reducible exact Lead.slice h _ _ _ _ _
      | with_reducible exact Lead.sliceAt h _ _ _ _ _
      | with_reducible exact Lead.arrayAt h _ _
      | with_reducible exact Lead.makeInterface h _ _
      | with_reducible exact Lead.makeFunc h _ _ _
      | with_reducible exact Lead.extract h _ _
      | with_reducible exact Lead.buildSlice h _ _ _
      | with_reducible exact Lead.makeSlice h _ _ _
      | with_reducible exact Lead.intArith h _ _ _ _
      | with_reducible exact Lead.intDiv h _ _ _ _
      | with_reducible exact Lead.intBits h _ _ _ _
      | with_reducible exact Lead.shift h _ _ _ _ _
      | with_reducible exact Lead.intCmp h _ _ _
      | with_reducible exact Lead.stringOp h _ _ _
      | with_reducible exact Lead.unary h _ _
      | with_reducible exact Lead.len_ h _ _ _
      | with_reducible exact Lead.cap_ h _ _ _
      | with_reducible exact Lead.lenOf h _
      | with_reducible exact Lead.firstCells h _ _ _
      | with_reducible exact Lead.copy_ h _ _ _
      | with_reducible exact Lead.checkKey h _ _ _ _
      | with_reducible exact Lead.bytesToString h _
      | with_reducible exact Lead.behindNumber _
      | with_reducible exact Lead.sameAddr _ _
      | with_reducible exact Lead.samePointer _ _
      | with_reducible exact Lead.noView _
      | with_reducible exact Lead.viewAt _
      | with_reducible exact Lead.numberAt _
      | with_reducible exact Lead.equalIn h _ _ _ _
      | with_reducible exact Lead.eqGuardIn h _ _ _ _
      | with_reducible exact Lead.equal h _ _ _
      | with_reducible exact Lead.eqGuard h _ _ _ _ _ _
      | with_reducible exact Lead.floatArith h _ _ _ _
      | with_reducible exact Lead.floatCmp h _ _ _ _
      | with_reducible exact Lead.floatToFloat h _ _ _
      | with_reducible exact Lead.floatToInt h _ _ _
      | with_reducible exact Lead.cArith h _ _ _ _
      | with_reducible exact Lead.cCmp h _ _ _ _
      | with_reducible exact Lead.cConv h _ _ _
      | with_reducible exact Lead.cadd h _ _
      | with_reducible exact Lead.csub h _ _
      | with_reducible exact Lead.cmul h _ _
      | with_reducible refine Lead.bind ?_ (fun _ => ?_)
      | with_reducible refine Lead.map ?_
      | with_reducible refine Lead.iteH (fun _ => ?_) (fun _ => ?_)
      | split
      | dsimp only

theorem Lead.cProduct (h : Tab V) (a b c d : Nat) : Lead V (Op.Complex.product a b c d) := by
    unfold Op.Complex.product
    repeat' first
      | (with_reducible refine Lead.program ?eq_ ?_; (case eq_ => simp only [tables_holdsPacked h.tables, tables_stoodInHeld h.tables, tables_depth h.tables, tables_globals h.tables, tables_eqGuard h.tables, tables_info h.tables]))
      | (refine Lead.byteOfG h _ ?_; simp_all; done)
      | (refine Lead.byteOfG h _ ?_; simp_all; omega)
      | (with_reducible refine Lead.getObjH h _ ?gk_ (.inr ?gd_) (fun _ _ h => ?_); (case gk_ => intros; rfl); (case gd_ => intro w_; refine ⟨_, _, rfl, ?_⟩; simp [Soft]))
      | (with_reducible refine Lead.forInArray _ ?_ _ _; intro _ _)
      | (with_reducible refine Lead.forInRange _ ?_ _ _; intro _ _)
      | (with_reducible refine Lead.forInList _ ?_ _ _; intro _ _)
      | (with_reducible refine Lead.mapArray _ ?_ _; intro _)
      | (with_reducible refine Lead.foldlM _ ?_ _ _; intro _ _)
      | with_reducible assumption
      | with_reducible exact Lead.pure _
      | with_reducible exact Lead.stuck _
      | with_reducible exact Lead.unsupported _
      | with_reducible exact Lead.goPanic _

      | with_reducible exact Lead.runtimePanic h _
      | with_reducible exact Lead.boundsPanic h _ _ _ _
      | with_reducible exact Lead.underlying h _
      | with_reducible exact Lead.typeInfo h _
      | with_reducible exact Lead.zeroValue h _
      | with_reducible exact Lead.sizeOf h _
      | with_reducible exact Lead.isAgg h _
      | with_reducible exact Lead.loadCells _ _
      | with_reducible exact Lead.storeCells _ _ _
      | with_reducible exact Lead.loadVar h _ _
      | with_reducible exact Lead.storeVar h _ _ _
      | with_reducible exact Lead.newRow _ _
      | with_reducible exact Lead.newVar _ _
      | with_reducible exact Lead.elemOf h _
      | with_reducible exact Lead.part h _ _ _
      | with_reducible exact Lead.asIntOf _
      | with_reducible exact Lead.asInt _
      | with_reducible exact Lead.asBool _
      | with_reducible exact Lead.asString _
      | with_reducible exact Lead.asAgg _
      | with_reducible exact Lead.asAddr h _
      | with_reducible exact Lead.sureAddr _
      | with_reducible exact Lead.load _ _
      | with_reducible exact Lead.store _ _ _
      | with_reducible exact Lead.choose _
      | with_reducible exact Lead.frozen _
      | with_reducible exact Lead.askRoom _
      | with_reducible exact Lead.typeStr h _
      | with_reducible exact Lead.loadAt h _ _
      | with_reducible exact Lead.storeAt h _ _ _
      | with_reducible exact Lead.alloc h _ _ _
      | with_reducible exact Lead.box h _ _
      | with_reducible exact Lead.field h _ _ _
      | with_reducible exact Lead.index h _ _ _
      | with_reducible exact Lead.indexAt h _ _ _
      | with_reducible exact Lead.sliceBound h _ _ _
      | with_reducible exact Lead.sliceBounds h _ _ _ _ _ _
      | with_reducible exact Lead.slice h _ _ _ _ _
      | with_reducible exact Lead.sliceAt h _ _ _ _ _
      | with_reducible exact Lead.arrayAt h _ _
      | with_reducible exact Lead.makeInterface h _ _
      | with_reducible exact Lead.makeFunc h _ _ _
      | with_reducible exact Lead.extract h _ _
      | with_reducible exact Lead.buildSlice h _ _ _
      | with_reducible exact Lead.makeSlice h _ _ _
      | with_reducible exact Lead.intArith h _ _ _ _
      | with_reducible exact Lead.intDiv h _ _ _ _
      | with_reducible exact Lead.intBits h _ _ _ _
      | with_reducible exact Lead.shift h _ _ _ _ _
      | with_reducible exact Lead.intCmp h _ _ _
      | with_reducible exact Lead.stringOp h _ _ _
      | with_reducible exact Lead.unary h _ _
      | with_reducible exact Lead.len_ h _ _ _
      | with_reducible exact Lead.cap_ h _ _ _
      | with_reducible exact Lead.lenOf h _
      | with_reducible exact Lead.firstCells h _ _ _
      | with_reducible exact Lead.copy_ h _ _ _
      | with_reducible exact Lead.checkKey h _ _ _ _
      | with_reducible exact Lead.bytesToString h _
      | with_reducible exact Lead.behindNumber _
      | with_reducible exact Lead.sameAddr _ _
      | with_reducible exact Lead.samePointer _ _
      | with_reducible exact Lead.noView _
      | with_reducible exact Lead.viewAt _
      | with_reducible exact Lead.numberAt _
      | with_reducible exact Lead.equalIn h _ _ _ _
      | with_reducible exact Lead.eqGuardIn h _ _ _ _
      | with_reducible exact Lead.equal h _ _ _
      | with_reducible exact Lead.eqGuard h _ _ _ _ _ _
      | with_reducible exact Lead.floatArith h _ _ _ _
      | with_reducible exact Lead.floatCmp h _ _ _ _
      | with_reducible exact Lead.floatToFloat h _ _ _
      | with_reducible exact Lead.floatToInt h _ _ _
      | with_reducible exact Lead.cArith h _ _ _ _
      | with_reducible exact Lead.cCmp h _ _ _ _
      | with_reducible exact Lead.cConv h _ _ _
      | with_reducible exact Lead.cadd h _ _
      | with_reducible exact Lead.csub h _ _
      | with_reducible exact Lead.cmul h _ _
      | with_reducible exact Lead.cquo h _ _
      | with_reducible refine Lead.bind ?_ (fun _ => ?_)
      | with_reducible refine Lead.map ?_
      | with_reducible refine Lead.iteH (fun _ => ?_) (fun _ => ?_)
      | split
      | dsimp only

theorem Lead.cCorrected (h : Tab V) (s a b c d : Nat) : Lead V (Op.Complex.corrected s a b c d) := by
    unfold Op.Complex.corrected
    repeat' first
      | (with_reducible refine Lead.program ?eq_ ?_; (case eq_ => simp only [tables_holdsPacked h.tables, tables_stoodInHeld h.tables, tables_depth h.tables, tables_globals h.tables, tables_eqGuard h.tables, tables_info h.tables]))
      | (refine Lead.byteOfG h _ ?_; simp_all; done)
      | (refine Lead.byteOfG h _ ?_; simp_all; omega)
      | (with_reducible refine Lead.getObjH h _ ?gk_ (.inr ?gd_) (fun _ _ h => ?_); (case gk_ => intros; rfl); (case gd_ => intro w_; refine ⟨_, _, rfl, ?_⟩; simp [Soft]))
      | (with_reducible refine Lead.forInArray _ ?_ _ _; intro _ _)
      | (with_reducible refine Lead.forInRange _ ?_ _ _; intro _ _)
      | (with_reducible refine Lead.forInList _ ?_ _ _; intro _ _)
      | (with_reducible refine Lead.mapArray _ ?_ _; intro _)
      | (with_reducible refine Lead.foldlM _ ?_ _ _; intro _ _)
      | with_reducible assumption
      | with_reducible exact Lead.pure _
      | with_reducible exact Lead.stuck _
      | with_reducible exact Lead.unsupported _
      | with_reducible exact Lead.goPanic _

      | with_reducible exact Lead.runtimePanic h _
      | with_reducible exact Lead.boundsPanic h _ _ _ _
      | with_reducible exact Lead.underlying h _
      | with_reducible exact Lead.typeInfo h _
      | with_reducible exact Lead.zeroValue h _
      | with_reducible exact Lead.sizeOf h _
      | with_reducible exact Lead.isAgg h _
      | with_reducible exact Lead.loadCells _ _
      | with_reducible exact Lead.storeCells _ _ _
      | with_reducible exact Lead.loadVar h _ _
      | with_reducible exact Lead.storeVar h _ _ _
      | with_reducible exact Lead.newRow _ _
      | with_reducible exact Lead.newVar _ _
      | with_reducible exact Lead.elemOf h _
      | with_reducible exact Lead.part h _ _ _
      | with_reducible exact Lead.asIntOf _
      | with_reducible exact Lead.asInt _
      | with_reducible exact Lead.asBool _
      | with_reducible exact Lead.asString _
      | with_reducible exact Lead.asAgg _
      | with_reducible exact Lead.asAddr h _
      | with_reducible exact Lead.sureAddr _
      | with_reducible exact Lead.load _ _
      | with_reducible exact Lead.store _ _ _
      | with_reducible exact Lead.choose _
      | with_reducible exact Lead.frozen _
      | with_reducible exact Lead.askRoom _
      | with_reducible exact Lead.typeStr h _
      | with_reducible exact Lead.loadAt h _ _
      | with_reducible exact Lead.storeAt h _ _ _
      | with_reducible exact Lead.alloc h _ _ _
      | with_reducible exact Lead.box h _ _
      | with_reducible exact Lead.field h _ _ _
      | with_reducible exact Lead.index h _ _ _
      | with_reducible exact Lead.indexAt h _ _ _
      | with_reducible exact Lead.sliceBound h _ _ _
      | with_reducible exact Lead.sliceBounds h _ _ _ _ _ _
      | with_reducible exact Lead.slice h _ _ _ _ _
      | with_reducible exact Lead.sliceAt h _ _ _ _ _
      | with_reducible exact Lead.arrayAt h _ _
      | with_reducible exact Lead.makeInterface h _ _
      | with_reducible exact Lead.makeFunc h _ _ _
      | with_reducible exact Lead.extract h _ _
      | with_reducible exact Lead.buildSlice h _ _ _
      | with_reducible exact Lead.makeSlice h _ _ _
      | with_reducible exact Lead.intArith h _ _ _ _
      | with_reducible exact Lead.intDiv h _ _ _ _
      | with_reducible exact Lead.intBits h _ _ _ _
      | with_reducible exact Lead.shift h _ _ _ _ _
      | with_reducible exact Lead.intCmp h _ _ _
      | with_reducible exact Lead.stringOp h _ _ _
      | with_reducible exact Lead.unary h _ _
      | with_reducible exact Lead.len_ h _ _ _
      | with_reducible exact Lead.cap_ h _ _ _
      | with_reducible exact Lead.lenOf h _
      | with_reducible exact Lead.firstCells h _ _ _
      | with_reducible exact Lead.copy_ h _ _ _
      | with_reducible exact Lead.checkKey h _ _ _ _
      | with_reducible exact Lead.bytesToString h _
      | with_reducible exact Lead.behindNumber _
      | with_reducible exact Lead.sameAddr _ _
      | with_reducible exact Lead.samePointer _ _
      | with_reducible exact Lead.noView _
      | with_reducible exact Lead.viewAt _
      | with_reducible exact Lead.numberAt _
      | with_reducible exact Lead.equalIn h _ _ _ _
      | with_reducible exact Lead.eqGuardIn h _ _ _ _
      | with_reducible exact Lead.equal h _ _ _
      | with_reducible exact Lead.eqGuard h _ _ _ _ _ _
      | with_reducible exact Lead.floatArith h _ _ _ _
      | with_reducible exact Lead.floatCmp h _ _ _ _
      | with_reducible exact Lead.floatToFloat h _ _ _
      | with_reducible exact Lead.floatToInt h _ _ _
      | with_reducible exact Lead.cArith h _ _ _ _
      | with_reducible exact Lead.cCmp h _ _ _ _
      | with_reducible exact Lead.cConv h _ _ _
      | with_reducible exact Lead.cadd h _ _
      | with_reducible exact Lead.csub h _ _
      | with_reducible exact Lead.cmul h _ _
      | with_reducible exact Lead.cquo h _ _
      | with_reducible exact Lead.cProduct h _ _ _ _
      | with_reducible refine Lead.bind ?_ (fun _ => ?_)
      | with_reducible refine Lead.map ?_
      | with_reducible refine Lead.iteH (fun _ => ?_) (fun _ => ?_)
      | split
      | dsimp only

theorem Lead.cQuotient (h : Tab V) (a b c d : Nat) : Lead V (Op.Complex.quotient a b c d) := by
    unfold Op.Complex.quotient
    repeat' first
      | (with_reducible refine Lead.program ?eq_ ?_; (case eq_ => simp only [tables_holdsPacked h.tables, tables_stoodInHeld h.tables, tables_depth h.tables, tables_globals h.tables, tables_eqGuard h.tables, tables_info h.tables]))
      | (refine Lead.byteOfG h _ ?_; simp_all; done)
      | (refine Lead.byteOfG h _ ?_; simp_all; omega)
      | (with_reducible refine Lead.getObjH h _ ?gk_ (.inr ?gd_) (fun _ _ h => ?_); (case gk_ => intros; rfl); (case gd_ => intro w_; refine ⟨_, _, rfl, ?_⟩; simp [Soft]))
      | (with_reducible refine Lead.forInArray _ ?_ _ _; intro _ _)
      | (with_reducible refine Lead.forInRange _ ?_ _ _; intro _ _)
      | (with_reducible refine Lead.forInList _ ?_ _ _; intro _ _)
      | (with_reducible refine Lead.mapArray _ ?_ _; intro _)
      | (with_reducible refine Lead.foldlM _ ?_ _ _; intro _ _)
      | with_reducible assumption
      | with_reducible exact Lead.pure _
      | with_reducible exact Lead.stuck _
      | with_reducible exact Lead.unsupported _
      | with_reducible exact Lead.goPanic _

      | with_reducible exact Lead.runtimePanic h _
      | with_reducible exact Lead.boundsPanic h _ _ _ _
      | with_reducible exact Lead.underlying h _
      | with_reducible exact Lead.typeInfo h _
      | with_reducible exact Lead.zeroValue h _
      | with_reducible exact Lead.sizeOf h _
      | with_reducible exact Lead.isAgg h _
      | with_reducible exact Lead.loadCells _ _
      | with_reducible exact Lead.storeCells _ _ _
      | with_reducible exact Lead.loadVar h _ _
      | with_reducible exact Lead.storeVar h _ _ _
      | with_reducible exact Lead.newRow _ _
      | with_reducible exact Lead.newVar _ _
      | with_reducible exact Lead.elemOf h _
      | with_reducible exact Lead.part h _ _ _
      | with_reducible exact Lead.asIntOf _
      | with_reducible exact Lead.asInt _
      | with_reducible exact Lead.asBool _
      | with_reducible exact Lead.asString _
      | with_reducible exact Lead.asAgg _
      | with_reducible exact Lead.asAddr h _
      | with_reducible exact Lead.sureAddr _
      | with_reducible exact Lead.load _ _
      | with_reducible exact Lead.store _ _ _
      | with_reducible exact Lead.choose _
      | with_reducible exact Lead.frozen _
      | with_reducible exact Lead.askRoom _
      | with_reducible exact Lead.typeStr h _
      | with_reducible exact Lead.loadAt h _ _
      | with_reducible exact Lead.storeAt h _ _ _
      | with_reducible exact Lead.alloc h _ _ _
      | with_reducible exact Lead.box h _ _
      | with_reducible exact Lead.field h _ _ _
      | with_reducible exact Lead.index h _ _ _
      | with_reducible exact Lead.indexAt h _ _ _
      | with_reducible exact Lead.sliceBound h _ _ _
      | with_reducible exact Lead.sliceBounds h _ _ _ _ _ _
      | with_reducible exact Lead.slice h _ _ _ _ _
      | with_reducible exact Lead.sliceAt h _ _ _ _ _
      | with_reducible exact Lead.arrayAt h _ _
      | with_reducible exact Lead.makeInterface h _ _
      | with_reducible exact Lead.makeFunc h _ _ _
      | with_reducible exact Lead.extract h _ _
      | with_reducible exact Lead.buildSlice h _ _ _
      | with_reducible exact Lead.makeSlice h _ _ _
      | with_reducible exact Lead.intArith h _ _ _ _
      | with_reducible exact Lead.intDiv h _ _ _ _
      | with_reducible exact Lead.intBits h _ _ _ _
      | with_reducible exact Lead.shift h _ _ _ _ _
      | with_reducible exact Lead.intCmp h _ _ _
      | with_reducible exact Lead.stringOp h _ _ _
      | with_reducible exact Lead.unary h _ _
      | with_reducible exact Lead.len_ h _ _ _
      | with_reducible exact Lead.cap_ h _ _ _
      | with_reducible exact Lead.lenOf h _
      | with_reducible exact Lead.firstCells h _ _ _
      | with_reducible exact Lead.copy_ h _ _ _
      | with_reducible exact Lead.checkKey h _ _ _ _
      | with_reducible exact Lead.bytesToString h _
      | with_reducible exact Lead.behindNumber _
      | with_reducible exact Lead.sameAddr _ _
      | with_reducible exact Lead.samePointer _ _
      | with_reducible exact Lead.noView _
      | with_reducible exact Lead.viewAt _
      | with_reducible exact Lead.numberAt _
      | with_reducible exact Lead.equalIn h _ _ _ _
      | with_reducible exact Lead.eqGuardIn h _ _ _ _
      | with_reducible exact Lead.equal h _ _ _
      | with_reducible exact Lead.eqGuard h _ _ _ _ _ _
      | with_reducible exact Lead.floatArith h _ _ _ _
      | with_reducible exact Lead.floatCmp h _ _ _ _
      | with_reducible exact Lead.floatToFloat h _ _ _
      | with_reducible exact Lead.floatToInt h _ _ _
      | with_reducible exact Lead.cArith h _ _ _ _
      | with_reducible exact Lead.cCmp h _ _ _ _
      | with_reducible exact Lead.cConv h _ _ _
      | with_reducible exact Lead.cadd h _ _
      | with_reducible exact Lead.csub h _ _
      | with_reducible exact Lead.cmul h _ _
      | with_reducible exact Lead.cquo h _ _
      | with_reducible exact Lead.cProduct h _ _ _ _
      | with_reducible exact Lead.cCorrected h _ _ _ _ _
      | with_reducible refine Lead.bind ?_ (fun _ => ?_)
      | with_reducible refine Lead.map ?_
      | with_reducible refine Lead.iteH (fun _ => ?_) (fun _ => ?_)
      | split
      | dsimp only

theorem Lead.complexOp (h : Tab V) (o : BinOp) (k : FloatKind) (a b c d : Nat) : Lead V (Op.complexOp o k a b c d) := by
    unfold Op.complexOp
    repeat' first
      | (with_reducible refine Lead.program ?eq_ ?_; (case eq_ => simp only [tables_holdsPacked h.tables, tables_stoodInHeld h.tables, tables_depth h.tables, tables_globals h.tables, tables_eqGuard h.tables, tables_info h.tables]))
      | (refine Lead.byteOfG h _ ?_; simp_all; done)
      | (refine Lead.byteOfG h _ ?_; simp_all; omega)
      | (with_reducible refine Lead.getObjH h _ ?gk_ (.inr ?gd_) (fun _ _ h => ?_); (case gk_ => intros; rfl); (case gd_ => intro w_; refine ⟨_, _, rfl, ?_⟩; simp [Soft]))
      | (with_reducible refine Lead.forInArray _ ?_ _ _; intro _ _)
      | (with_reducible refine Lead.forInRange _ ?_ _ _; intro _ _)
      | (with_reducible refine Lead.forInList _ ?_ _ _; intro _ _)
      | (with_reducible refine Lead.mapArray _ ?_ _; intro _)
      | (with_reducible refine Lead.foldlM _ ?_ _ _; intro _ _)
      | with_reducible assumption
      | with_reducible exact Lead.pure _
      | with_reducible exact Lead.stuck _
      | with_reducible exact Lead.unsupported _
      | with_reducible exact Lead.goPanic _

      | with_reducible exact Lead.runtimePanic h _
      | with_reducible exact Lead.boundsPanic h _ _ _ _
      | with_reducible exact Lead.underlying h _
      | with_reducible exact Lead.typeInfo h _
      | with_reducible exact Lead.zeroValue h _
      | with_reducible exact Lead.sizeOf h _
      | with_reducible exact Lead.isAgg h _
      | with_reducible exact Lead.loadCells _ _
      | with_reducible exact Lead.storeCells _ _ _
      | with_reducible exact Lead.loadVar h _ _
      | with_reducible exact Lead.storeVar h _ _ _
      | with_reducible exact Lead.newRow _ _
      | with_reducible exact Lead.newVar _ _
      | with_reducible exact Lead.elemOf h _
      | with_reducible exact Lead.part h _ _ _
      | with_reducible exact Lead.asIntOf _
      | with_reducible exact Lead.asInt _
      | with_reducible exact Lead.asBool _
      | with_reducible exact Lead.asString _
      | with_reducible exact Lead.asAgg _
      | with_reducible exact Lead.asAddr h _
      | with_reducible exact Lead.sureAddr _
      | with_reducible exact Lead.load _ _
      | with_reducible exact Lead.store _ _ _
      | with_reducible exact Lead.choose _
      | with_reducible exact Lead.frozen _
      | with_reducible exact Lead.askRoom _
      | with_reducible exact Lead.typeStr h _
      | with_reducible exact Lead.loadAt h _ _
      | with_reducible exact Lead.storeAt h _ _ _
      | with_reducible exact Lead.alloc h _ _ _
      | with_reducible exact Lead.box h _ _
      | with_reducible exact Lead.field h _ _ _
      | with_reducible exact Lead.index h _ _ _
      | with_reducible exact Lead.indexAt h _ _ _
      | with_reducible exact Lead.sliceBound h _ _ _
      | with_reducible exact Lead.sliceBounds h _ _ _ _ _ _
      | with_reducible exact Lead.slice h _ _ _ _ _
      | with_reducible exact Lead.sliceAt h _ _ _ _ _
      | with_reducible exact Lead.arrayAt h _ _
      | with_reducible exact Lead.makeInterface h _ _
      | with_reducible exact Lead.makeFunc h _ _ _
      | with_reducible exact Lead.extract h _ _
      | with_reducible exact Lead.buildSlice h _ _ _
      | with_reducible exact Lead.makeSlice h _ _ _
      | with_reducible exact Lead.intArith h _ _ _ _
      | with_reducible exact Lead.intDiv h _ _ _ _
      | with_reducible exact Lead.intBits h _ _ _ _
      | with_reducible exact Lead.shift h _ _ _ _ _
      | with_reducible exact Lead.intCmp h _ _ _
      | with_reducible exact Lead.stringOp h _ _ _
      | with_reducible exact Lead.unary h _ _
      | with_reducible exact Lead.len_ h _ _ _
      | with_reducible exact Lead.cap_ h _ _ _
      | with_reducible exact Lead.lenOf h _
      | with_reducible exact Lead.firstCells h _ _ _
      | with_reducible exact Lead.copy_ h _ _ _
      | with_reducible exact Lead.checkKey h _ _ _ _
      | with_reducible exact Lead.bytesToString h _
      | with_reducible exact Lead.behindNumber _
      | with_reducible exact Lead.sameAddr _ _
      | with_reducible exact Lead.samePointer _ _
      | with_reducible exact Lead.noView _
      | with_reducible exact Lead.viewAt _
      | with_reducible exact Lead.numberAt _
      | with_reducible exact Lead.equalIn h _ _ _ _
      | with_reducible exact Lead.eqGuardIn h _ _ _ _
      | with_reducible exact Lead.equal h _ _ _
      | with_reducible exact Lead.eqGuard h _ _ _ _ _ _
      | with_reducible exact Lead.floatArith h _ _ _ _
      | with_reducible exact Lead.floatCmp h _ _ _ _
      | with_reducible exact Lead.floatToFloat h _ _ _
      | with_reducible exact Lead.floatToInt h _ _ _
      | with_reducible exact Lead.cArith h _ _ _ _
      | with_reducible exact Lead.cCmp h _ _ _ _
      | with_reducible exact Lead.cConv h _ _ _
      | with_reducible exact Lead.cadd h _ _
      | with_reducible exact Lead.csub h _ _
      | with_reducible exact Lead.cmul h _ _
      | with_reducible exact Lead.cquo h _ _
      | with_reducible exact Lead.cProduct h _ _ _ _
      | with_reducible exact Lead.cCorrected h _ _ _ _ _
      | with_reducible exact Lead.cQuotient h _ _ _ _
      | with_reducible refine Lead.bind ?_ (fun _ => ?_)
      | with_reducible refine Lead.map ?_
      | with_reducible refine Lead.iteH (fun _ => ?_) (fun _ => ?_)
      | split
      | dsimp only

theorem Lead.complexToComplex (h : Tab V) (k : FloatKind) (a b : Nat) (d : FloatKind) : Lead V (Conv.complexToComplex k a b d) := by
    unfold Conv.complexToComplex
    repeat' first
      | (with_reducible refine Lead.getObjH h _ ?gk_ (.inr ?gd_) (fun _ _ h => ?_); (case gk_ => intros; rfl); (case gd_ => intro w_; refine ⟨_, _, rfl, ?_⟩; simp [Soft]))
      | (with_reducible refine Lead.forInArray _ ?_ _ _; intro _ _)
      | (with_reducible refine Lead.forInRange _ ?_ _ _; intro _ _)
      | (with_reducible refine Lead.forInList _ ?_ _ _; intro _ _)
      | (with_reducible refine Lead.mapArray _ ?_ _; intro _)
      | (with_reducible refine Lead.foldlM _ ?_ _ _; intro _ _)
      | with_reducible assumption
      | with_reducible exact Lead.pure _
      | with_reducible exact Lead.stuck _
      | with_reducible exact Lead.unsupported _
      | with_reducible exact Lead.goPanic _
      | with_reducible exact Lead.floatToFloat h _ _ _
      | with_reducible refine Lead.bind ?_ (fun _ => ?_)
      | with_reducible refine Lead.map ?_
      | with_reducible refine Lead.iteH (fun _ => ?_) (fun _ => ?_)
      | split
      | dsimp only

theorem Lead.max2 (h : Tab V) (a b : Value) : Lead V (Builtin.max2 a b) := by
    unfold Builtin.max2
    repeat' first
      | (with_reducible refine Lead.getObjH h _ ?gk_ (.inr ?gd_) (fun _ _ h => ?_); (case gk_ => intros; rfl); (case gd_ => intro w_; refine ⟨_, _, rfl, ?_⟩; simp [Soft]))
      | (with_reducible refine Lead.forInArray _ ?_ _ _; intro _ _)
      | (with_reducible refine Lead.forInRange _ ?_ _ _; intro _ _)
      | (with_reducible refine Lead.forInList _ ?_ _ _; intro _ _)
      | (with_reducible refine Lead.mapArray _ ?_ _; intro _)
      | (with_reducible refine Lead.foldlM _ ?_ _ _; intro _ _)
      | with_reducible assumption
      | with_reducible exact Lead.pure _
      | with_reducible exact Lead.stuck _
      | with_reducible exact Lead.unsupported _
      | with_reducible exact Lead.goPanic _
      | with_reducible exact Lead.asBool _
      | with_reducible exact Lead.choose _
      | with_reducible exact Lead.stringOp h _ _ _
      | with_reducible refine Lead.bind ?_ (fun _ => ?_)
      | with_reducible refine Lead.map ?_
      | with_reducible refine Lead.iteH (fun _ => ?_) (fun _ => ?_)
      | split
      | dsimp only

theorem Lead.min2 (h : Tab V) (a b : Value) : Lead V (Builtin.min2 a b) := by
    unfold Builtin.min2
    repeat' first
      | (with_reducible refine Lead.getObjH h _ ?gk_ (.inr ?gd_) (fun _ _ h => ?_); (case gk_ => intros; rfl); (case gd_ => intro w_; refine ⟨_, _, rfl, ?_⟩; simp [Soft]))
      | (with_reducible refine Lead.forInArray _ ?_ _ _; intro _ _)
      | (with_reducible refine Lead.forInRange _ ?_ _ _; intro _ _)
      | (with_reducible refine Lead.forInList _ ?_ _ _; intro _ _)
      | (with_reducible refine Lead.mapArray _ ?_ _; intro _)
      | (with_reducible refine Lead.foldlM _ ?_ _ _; intro _ _)
      | with_reducible assumption
      | with_reducible exact Lead.pure _
      | with_reducible exact Lead.stuck _
      | with_reducible exact Lead.unsupported _
      | with_reducible exact Lead.goPanic _
      | with_reducible exact Lead.asBool _
      | with_reducible exact Lead.choose _
      | with_reducible exact Lead.stringOp h _ _ _
      | with_reducible refine Lead.bind ?_ (fun _ => ?_)
      | with_reducible refine Lead.map ?_
      | with_reducible refine Lead.iteH (fun _ => ?_) (fun _ => ?_)
      | split
      | dsimp only

theorem Lead.max_ (h : Tab V) (a : Array TypeId) (t : TypeId) (x : Array Value) : Lead V (Builtin.max_ a t x) := by
    unfold Builtin.max_
    repeat' first
      | (with_reducible refine Lead.getObjH h _ ?gk_ (.inr ?gd_) (fun _ _ h => ?_); (case gk_ => intros; rfl); (case gd_ => intro w_; refine ⟨_, _, rfl, ?_⟩; simp [Soft]))
      | (with_reducible refine Lead.forInArray _ ?_ _ _; intro _ _)
      | (with_reducible refine Lead.forInRange _ ?_ _ _; intro _ _)
      | (with_reducible refine Lead.forInList _ ?_ _ _; intro _ _)
      | (with_reducible refine Lead.mapArray _ ?_ _; intro _)
      | (with_reducible refine Lead.foldlM _ ?_ _ _; intro _ _)
      | with_reducible assumption
      | with_reducible exact Lead.pure _
      | with_reducible exact Lead.stuck _
      | with_reducible exact Lead.unsupported _
      | with_reducible exact Lead.goPanic _
      | with_reducible exact Lead.max2 h _ _
      | with_reducible refine Lead.bind ?_ (fun _ => ?_)
      | with_reducible refine Lead.map ?_
      | with_reducible refine Lead.iteH (fun _ => ?_) (fun _ => ?_)
      | split
      | dsimp only

theorem Lead.min_ (h : Tab V) (a : Array TypeId) (t : TypeId) (x : Array Value) : Lead V (Builtin.min_ a t x) := by
    unfold Builtin.min_
    repeat' first
      | (with_reducible refine Lead.getObjH h _ ?gk_ (.inr ?gd_) (fun _ _ h => ?_); (case gk_ => intros; rfl); (case gd_ => intro w_; refine ⟨_, _, rfl, ?_⟩; simp [Soft]))
      | (with_reducible refine Lead.forInArray _ ?_ _ _; intro _ _)
      | (with_reducible refine Lead.forInRange _ ?_ _ _; intro _ _)
      | (with_reducible refine Lead.forInList _ ?_ _ _; intro _ _)
      | (with_reducible refine Lead.mapArray _ ?_ _; intro _)
      | (with_reducible refine Lead.foldlM _ ?_ _ _; intro _ _)
      | with_reducible assumption
      | with_reducible exact Lead.pure _
      | with_reducible exact Lead.stuck _
      | with_reducible exact Lead.unsupported _
      | with_reducible exact Lead.goPanic _
      | with_reducible exact Lead.min2 h _ _
      | with_reducible refine Lead.bind ?_ (fun _ => ?_)
      | with_reducible refine Lead.map ?_
      | with_reducible refine Lead.iteH (fun _ => ?_) (fun _ => ?_)
      | split
      | dsimp only

theorem Lead.clear_ (h : Tab V) (a : Array TypeId) (t : TypeId) (x : Array Value) : Lead V (Builtin.clear_ a t x) := by
    unfold Builtin.clear_
    repeat' first
      | exact Lead.setObj _ _ rfl (by simp [Env.add])
      | (with_reducible refine Lead.getObjH h _ ?gk_ (.inr ?gd_) (fun _ _ h => ?_); (case gk_ => intros; rfl); (case gd_ => intro w_; refine ⟨_, _, rfl, ?_⟩; simp [Soft]))
      | (with_reducible refine Lead.forInArray _ ?_ _ _; intro _ _)
      | (with_reducible refine Lead.forInRange _ ?_ _ _; intro _ _)
      | (with_reducible refine Lead.forInList _ ?_ _ _; intro _ _)
      | (with_reducible refine Lead.mapArray _ ?_ _; intro _)
      | (with_reducible refine Lead.foldlM _ ?_ _ _; intro _ _)
      | with_reducible assumption
      | with_reducible exact Lead.pure _
      | with_reducible exact Lead.stuck _
      | with_reducible exact Lead.unsupported _
      | with_reducible exact Lead.goPanic _
      | with_reducible exact Lead.underlying h _
      | with_reducible exact Lead.zeroValue h _
      | with_reducible exact Lead.storeCells _ _ _
      | with_reducible exact Lead.slice h _ _ _ _ _
      | with_reducible refine Lead.bind ?_ (fun _ => ?_)
      | with_reducible refine Lead.map ?_
      | with_reducible refine Lead.iteH (fun _ => ?_) (fun _ => ?_)
      | split
      | dsimp only

theorem Lead.stringToRunes (h : Tab V) (t : TypeId) (s : ByteArray) : Lead V (Conv.stringToRunes t s) := by
    unfold Conv.stringToRunes
    repeat' first
      | (with_reducible refine Lead.getObjH h _ ?gk_ (.inr ?gd_) (fun _ _ h => ?_); (case gk_ => intros; rfl); (case gd_ => intro w_; refine ⟨_, _, rfl, ?_⟩; simp [Soft]))
      | (with_reducible refine Lead.forInArray _ ?_ _ _; intro _ _)
      | (with_reducible refine Lead.forInRange _ ?_ _ _; intro _ _)
      | (with_reducible refine Lead.forInList _ ?_ _ _; intro _ _)
      | (with_reducible refine Lead.mapArray _ ?_ _; intro _)
      | (with_reducible refine Lead.foldlM _ ?_ _ _; intro _ _)
      | with_reducible assumption
      | with_reducible exact Lead.pure _
      | with_reducible exact Lead.stuck _
      | with_reducible exact Lead.unsupported _
      | with_reducible exact Lead.goPanic _
      | with_reducible exact Lead.newRow _ _
      | with_reducible exact Lead.choose _
      | with_reducible exact Lead.slice h _ _ _ _ _
      | with_reducible refine Lead.bind ?_ (fun _ => ?_)
      | with_reducible refine Lead.map ?_
      | with_reducible refine Lead.iteH (fun _ => ?_) (fun _ => ?_)
      | split
      | dsimp only

theorem Lead.runesToString (h : Tab V) (x : Value) : Lead V (Conv.runesToString x) := by
    unfold Conv.runesToString
    repeat' first
      | (with_reducible refine Lead.getObjH h _ ?gk_ (.inr ?gd_) (fun _ _ h => ?_); (case gk_ => intros; rfl); (case gd_ => intro w_; refine ⟨_, _, rfl, ?_⟩; simp [Soft]))
      | (with_reducible refine Lead.forInArray _ ?_ _ _; intro _ _)
      | (with_reducible refine Lead.forInRange _ ?_ _ _; intro _ _)
      | (with_reducible refine Lead.forInList _ ?_ _ _; intro _ _)
      | (with_reducible refine Lead.mapArray _ ?_ _; intro _)
      | (with_reducible refine Lead.foldlM _ ?_ _ _; intro _ _)
      | with_reducible assumption
      | with_reducible exact Lead.pure _
      | with_reducible exact Lead.stuck _
      | with_reducible exact Lead.unsupported _
      | with_reducible exact Lead.goPanic _
      | with_reducible exact Lead.loadCells _ _
      | with_reducible exact Lead.slice h _ _ _ _ _
      | with_reducible refine Lead.bind ?_ (fun _ => ?_)
      | with_reducible refine Lead.map ?_
      | with_reducible refine Lead.iteH (fun _ => ?_) (fun _ => ?_)
      | split
      | dsimp only

theorem Lead.findAsking (h : Tab V) (t : TypeId) (k : Value) : ∀ (l : List MapEntry) (i : Nat), Lead V (Instr.findAsking t k l i) := by
    intro l
    induction l with
    | nil => intros; exact Lead.pure _
    | cons e l ih =>
    intros
    unfold Instr.findAsking
    repeat' first
      | (with_reducible refine Lead.getObjH h _ ?gk_ (.inr ?gd_) (fun _ _ h => ?_); (case gk_ => intros; rfl); (case gd_ => intro w_; refine ⟨_, _, rfl, ?_⟩; simp [Soft]))
      | (with_reducible refine Lead.forInArray _ ?_ _ _; intro _ _)
      | (with_reducible refine Lead.forInRange _ ?_ _ _; intro _ _)
      | (with_reducible refine Lead.forInList _ ?_ _ _; intro _ _)
      | (with_reducible refine Lead.mapArray _ ?_ _; intro _)
      | (with_reducible refine Lead.foldlM _ ?_ _ _; intro _ _)
      | with_reducible assumption
      | with_reducible exact Lead.pure _
      | with_reducible exact Lead.stuck _
      | with_reducible exact Lead.unsupported _
      | with_reducible exact Lead.goPanic _
      | with_reducible exact Lead.equal h _ _ _
      | with_reducible apply ih
      | with_reducible refine Lead.bind ?_ (fun _ => ?_)
      | with_reducible refine Lead.map ?_
      | with_reducible refine Lead.iteH (fun _ => ?_) (fun _ => ?_)
      | split
      | dsimp only

theorem Lead.findKey (h : Tab V) (t : TypeId) (k : Value) (l : List MapEntry) : Lead V (Instr.findKey t k l) := by
    unfold Instr.findKey
    repeat' first
      | (with_reducible refine Lead.getObjH h _ ?gk_ (.inr ?gd_) (fun _ _ h => ?_); (case gk_ => intros; rfl); (case gd_ => intro w_; refine ⟨_, _, rfl, ?_⟩; simp [Soft]))
      | (with_reducible refine Lead.forInArray _ ?_ _ _; intro _ _)
      | (with_reducible refine Lead.forInRange _ ?_ _ _; intro _ _)
      | (with_reducible refine Lead.forInList _ ?_ _ _; intro _ _)
      | (with_reducible refine Lead.mapArray _ ?_ _; intro _)
      | (with_reducible refine Lead.foldlM _ ?_ _ _; intro _ _)
      | with_reducible assumption
      | with_reducible exact Lead.pure _
      | with_reducible exact Lead.stuck _
      | with_reducible exact Lead.unsupported _
      | with_reducible exact Lead.goPanic _
      | with_reducible exact Lead.underlying h _
      | with_reducible exact Lead.findAsking h _ _ _ _
      | with_reducible refine Lead.bind ?_ (fun _ => ?_)
      | with_reducible refine Lead.map ?_
      | with_reducible refine Lead.iteH (fun _ => ?_) (fun _ => ?_)
      | split
      | dsimp only

theorem Lead.lookup (h : Tab V) (t : TypeId) (x i : Value) (b : Bool) : Lead V (Instr.lookup t x i b) := by
    unfold Instr.lookup
    repeat' first
      | (with_reducible refine Lead.getObjH h _ ?gk_ (.inr ?gd_) (fun _ _ h => ?_); (case gk_ => intros; rfl); (case gd_ => intro w_; refine ⟨_, _, rfl, ?_⟩; simp [Soft]))
      | (with_reducible refine Lead.forInArray _ ?_ _ _; intro _ _)
      | (with_reducible refine Lead.forInRange _ ?_ _ _; intro _ _)
      | (with_reducible refine Lead.forInList _ ?_ _ _; intro _ _)
      | (with_reducible refine Lead.mapArray _ ?_ _; intro _)
      | (with_reducible refine Lead.foldlM _ ?_ _ _; intro _ _)
      | with_reducible assumption
      | with_reducible exact Lead.pure _
      | with_reducible exact Lead.stuck _
      | with_reducible exact Lead.unsupported _
      | with_reducible exact Lead.goPanic _
      | with_reducible exact Lead.underlying h _
      | with_reducible exact Lead.zeroValue h _
      | with_reducible exact Lead.index h _ _ _
      | with_reducible exact Lead.checkKey h _ _ _ _
      | with_reducible exact Lead.findKey h _ _ _
      | with_reducible refine Lead.bind ?_ (fun _ => ?_)
      | with_reducible refine Lead.map ?_
      | with_reducible refine Lead.iteH (fun _ => ?_) (fun _ => ?_)
      | split
      | dsimp only

theorem Lead.keyThatStays (h : Tab V) (a b : Value) : Lead V (Instr.keyThatStays a b) := by
    unfold Instr.keyThatStays
    repeat' first
      | (with_reducible refine Lead.getObjH h _ ?gk_ (.inr ?gd_) (fun _ _ h => ?_); (case gk_ => intros; rfl); (case gd_ => intro w_; refine ⟨_, _, rfl, ?_⟩; simp [Soft]))
      | (with_reducible refine Lead.forInArray _ ?_ _ _; intro _ _)
      | (with_reducible refine Lead.forInRange _ ?_ _ _; intro _ _)
      | (with_reducible refine Lead.forInList _ ?_ _ _; intro _ _)
      | (with_reducible refine Lead.mapArray _ ?_ _; intro _)
      | (with_reducible refine Lead.foldlM _ ?_ _ _; intro _ _)
      | with_reducible assumption
      | with_reducible exact Lead.pure _
      | with_reducible exact Lead.stuck _
      | with_reducible exact Lead.unsupported _
      | with_reducible exact Lead.goPanic _
      | with_reducible exact Lead.choose _
      | with_reducible refine Lead.bind ?_ (fun _ => ?_)
      | with_reducible refine Lead.map ?_
      | with_reducible refine Lead.iteH (fun _ => ?_) (fun _ => ?_)
      | split
      | dsimp only

theorem Lead.mapUpdate (h : Tab V) (t : TypeId) (m k x : Value) : Lead V (Instr.mapUpdate t m k x) := by
    unfold Instr.mapUpdate
    repeat' first
      | exact Lead.setObj _ _ rfl (by simp [Env.add])
      | (with_reducible refine Lead.getObjH h _ ?gk_ (.inr ?gd_) (fun _ _ h => ?_); (case gk_ => intros; rfl); (case gd_ => intro w_; refine ⟨_, _, rfl, ?_⟩; simp [Soft]))
      | (with_reducible refine Lead.forInArray _ ?_ _ _; intro _ _)
      | (with_reducible refine Lead.forInRange _ ?_ _ _; intro _ _)
      | (with_reducible refine Lead.forInList _ ?_ _ _; intro _ _)
      | (with_reducible refine Lead.mapArray _ ?_ _; intro _)
      | (with_reducible refine Lead.foldlM _ ?_ _ _; intro _ _)
      | with_reducible assumption
      | with_reducible exact Lead.pure _
      | with_reducible exact Lead.stuck _
      | with_reducible exact Lead.unsupported _
      | with_reducible exact Lead.goPanic _
      | with_reducible exact Lead.runtimePanic h _
      | with_reducible exact Lead.underlying h _
      | with_reducible exact Lead.checkKey h _ _ _ _
      | with_reducible exact Lead.findKey h _ _ _
      | with_reducible exact Lead.keyThatStays h _ _
      | with_reducible refine Lead.bind ?_ (fun _ => ?_)
      | with_reducible refine Lead.map ?_
      | with_reducible refine Lead.iteH (fun _ => ?_) (fun _ => ?_)
      | split
      | dsimp only

theorem Lead.mapEntry (h : Tab V) (t : TypeId) (m k : Value) : Lead V (Instr.mapEntry t m k) := by
    unfold Instr.mapEntry
    repeat' first
      | exact Lead.setObj _ _ rfl (by simp [Env.add])
      | (with_reducible refine Lead.getObjH h _ ?gk_ (.inr ?gd_) (fun _ _ h => ?_); (case gk_ => intros; rfl); (case gd_ => intro w_; refine ⟨_, _, rfl, ?_⟩; simp [Soft]))
      | (with_reducible refine Lead.forInArray _ ?_ _ _; intro _ _)
      | (with_reducible refine Lead.forInRange _ ?_ _ _; intro _ _)
      | (with_reducible refine Lead.forInList _ ?_ _ _; intro _ _)
      | (with_reducible refine Lead.mapArray _ ?_ _; intro _)
      | (with_reducible refine Lead.foldlM _ ?_ _ _; intro _ _)
      | with_reducible assumption
      | with_reducible exact Lead.pure _
      | with_reducible exact Lead.stuck _
      | with_reducible exact Lead.unsupported _
      | with_reducible exact Lead.goPanic _
      | with_reducible exact Lead.runtimePanic h _
      | with_reducible exact Lead.underlying h _
      | with_reducible exact Lead.zeroValue h _
      | with_reducible exact Lead.checkKey h _ _ _ _
      | with_reducible exact Lead.findKey h _ _ _
      | with_reducible exact Lead.keyThatStays h _ _
      | with_reducible refine Lead.bind ?_ (fun _ => ?_)
      | with_reducible refine Lead.map ?_
      | with_reducible refine Lead.iteH (fun _ => ?_) (fun _ => ?_)
      | split
      | dsimp only

theorem Lead.entryStore (h : Tab V) (t : TypeId) (m k x : Value) : Lead V (Instr.entryStore t m k x) := by
    unfold Instr.entryStore
    repeat' first
      | exact Lead.setObj _ _ rfl (by simp [Env.add])
      | (with_reducible refine Lead.getObjH h _ ?gk_ (.inr ?gd_) (fun _ _ h => ?_); (case gk_ => intros; rfl); (case gd_ => intro w_; refine ⟨_, _, rfl, ?_⟩; simp [Soft]))
      | (with_reducible refine Lead.forInArray _ ?_ _ _; intro _ _)
      | (with_reducible refine Lead.forInRange _ ?_ _ _; intro _ _)
      | (with_reducible refine Lead.forInList _ ?_ _ _; intro _ _)
      | (with_reducible refine Lead.mapArray _ ?_ _; intro _)
      | (with_reducible refine Lead.foldlM _ ?_ _ _; intro _ _)
      | with_reducible assumption
      | with_reducible exact Lead.pure _
      | with_reducible exact Lead.stuck _
      | with_reducible exact Lead.unsupported _
      | with_reducible exact Lead.goPanic _
      | with_reducible exact Lead.asInt _
      | with_reducible refine Lead.bind ?_ (fun _ => ?_)
      | with_reducible refine Lead.map ?_
      | with_reducible refine Lead.iteH (fun _ => ?_) (fun _ => ?_)
      | split
      | dsimp only

theorem Lead.makeMap (h : Tab V) (t : TypeId) (r : Option Value) : Lead V (Instr.makeMap t r) := by
    unfold Instr.makeMap
    repeat' first
      | exact Lead.newObj _ rfl
      | (with_reducible refine Lead.newObj _ ?_; split <;> rfl)
      | (with_reducible refine Lead.getObjH h _ ?gk_ (.inr ?gd_) (fun _ _ h => ?_); (case gk_ => intros; rfl); (case gd_ => intro w_; refine ⟨_, _, rfl, ?_⟩; simp [Soft]))
      | (with_reducible refine Lead.forInArray _ ?_ _ _; intro _ _)
      | (with_reducible refine Lead.forInRange _ ?_ _ _; intro _ _)
      | (with_reducible refine Lead.forInList _ ?_ _ _; intro _ _)
      | (with_reducible refine Lead.mapArray _ ?_ _; intro _)
      | (with_reducible refine Lead.foldlM _ ?_ _ _; intro _ _)
      | with_reducible assumption
      | with_reducible exact Lead.pure _
      | with_reducible exact Lead.stuck _
      | with_reducible exact Lead.unsupported _
      | with_reducible exact Lead.goPanic _
      | with_reducible exact Lead.underlying h _
      | with_reducible exact Lead.asInt _
      | with_reducible refine Lead.bind ?_ (fun _ => ?_)
      | with_reducible refine Lead.map ?_
      | with_reducible refine Lead.iteH (fun _ => ?_) (fun _ => ?_)
      | split
      | dsimp only

theorem Lead.makeChan (h : Tab V) (t : TypeId) (n : Value) : Lead V (Instr.makeChan t n) := by
    unfold Instr.makeChan
    repeat' first
      | exact Lead.newObj _ rfl
      | (with_reducible refine Lead.newObj _ ?_; split <;> rfl)
      | (with_reducible refine Lead.getObjH h _ ?gk_ (.inr ?gd_) (fun _ _ h => ?_); (case gk_ => intros; rfl); (case gd_ => intro w_; refine ⟨_, _, rfl, ?_⟩; simp [Soft]))
      | (with_reducible refine Lead.forInArray _ ?_ _ _; intro _ _)
      | (with_reducible refine Lead.forInRange _ ?_ _ _; intro _ _)
      | (with_reducible refine Lead.forInList _ ?_ _ _; intro _ _)
      | (with_reducible refine Lead.mapArray _ ?_ _; intro _)
      | (with_reducible refine Lead.foldlM _ ?_ _ _; intro _ _)
      | with_reducible assumption
      | with_reducible exact Lead.pure _
      | with_reducible exact Lead.stuck _
      | with_reducible exact Lead.unsupported _
      | with_reducible exact Lead.goPanic _
      | with_reducible exact Lead.runtimePanic h _
      | with_reducible exact Lead.underlying h _
      | with_reducible exact Lead.typeInfo h _
      | with_reducible exact Lead.asInt _
      | with_reducible refine Lead.bind ?_ (fun _ => ?_)
      | with_reducible refine Lead.map ?_
      | with_reducible refine Lead.iteH (fun _ => ?_) (fun _ => ?_)
      | split
      | dsimp only

theorem Lead.range (h : Tab V) (t : TypeId) (x : Value) : Lead V (Instr.range t x) := by
    unfold Instr.range
    refine Lead.bind (Lead.underlying h _) fun d => ?_
    have fin : ∀ (V : Env) (it : Obj), Obj.calm it = true → Lead V (Go.newObj it >>= fun r => (Pure.pure (Value.pointer (some ⟨r, 0, none⟩)) : Sem Value)) := fun V it hi => Lead.bind (Lead.newObj it hi) fun _ => Lead.pure _
    split
    · exact fin _ _ rfl
    · exact fin _ _ rfl
    · show Lead V (Sem.bind (Sem.bind (Go.getObj _) _) _)
      rw [Sem.bind_assoc']
      refine Lead.getObjK _ (by intros; rfl) (.inr (by intros; exact ⟨_, _, rfl, by simp [Soft]⟩)) fun o _ => ?_
      cases o with
      | map es clock => exact fin _ (.mapIter (some _) clock #[] clock) rfl
      | _ => exact Lead.soft _
    · exact Lead.soft _

theorem Lead.next (h : Tab V) (i : Value) (t : TypeId) : Lead V (Instr.next i false t) := by
    unfold Instr.next
    repeat' first
      | exact Lead.setObj _ _ rfl (by simp [Env.add])
      | (with_reducible refine Lead.program ?eq_ ?_; (case eq_ => simp only [tables_holdsPacked h.tables, tables_stoodInHeld h.tables, tables_depth h.tables, tables_globals h.tables, tables_eqGuard h.tables, tables_info h.tables]))
      | (with_reducible refine Lead.getObjH h _ ?gk_ (.inr ?gd_) (fun _ _ h => ?_); (case gk_ => intros; rfl); (case gd_ => intro w_; refine ⟨_, _, rfl, ?_⟩; simp [Soft]))
      | (with_reducible refine Lead.forInArray _ ?_ _ _; intro _ _)
      | (with_reducible refine Lead.forInRange _ ?_ _ _; intro _ _)
      | (with_reducible refine Lead.forInList _ ?_ _ _; intro _ _)
      | (with_reducible refine Lead.mapArray _ ?_ _; intro _)
      | (with_reducible refine Lead.foldlM _ ?_ _ _; intro _ _)
      | with_reducible assumption
      | with_reducible exact Lead.pure _
      | with_reducible exact Lead.stuck _
      | with_reducible exact Lead.unsupported _
      | with_reducible exact Lead.goPanic _
      | with_reducible exact Lead.runtimePanic h _
      | with_reducible exact Lead.zeroValue h _
      | with_reducible exact Lead.elemOf h _
      | with_reducible exact Lead.asInt _
      | with_reducible exact Lead.asAddr h _
      | with_reducible exact Lead.load _ _
      | with_reducible exact Lead.store _ _ _
      | with_reducible exact Lead.choose _
      | with_reducible exact Lead.slice h _ _ _ _ _
      | with_reducible exact Lead.lookup h _ _ _ _
      | with_reducible exact Lead.range h _ _
      | with_reducible refine Lead.bind ?_ (fun _ => ?_)
      | with_reducible refine Lead.map ?_
      | with_reducible refine Lead.iteH (fun _ => ?_) (fun _ => ?_)
      | split
      | dsimp only

theorem Lead.entry (h : Tab V) (i : Value) : Lead V (Instr.entry i) := by
    unfold Instr.entry
    repeat' first
      | (with_reducible refine Lead.program ?eq_ ?_; (case eq_ => simp only [tables_holdsPacked h.tables, tables_stoodInHeld h.tables, tables_depth h.tables, tables_globals h.tables, tables_eqGuard h.tables, tables_info h.tables]))
      | (with_reducible refine Lead.getObjH h _ ?gk_ (.inr ?gd_) (fun _ _ h => ?_); (case gk_ => intros; rfl); (case gd_ => intro w_; refine ⟨_, _, rfl, ?_⟩; simp [Soft]))
      | (with_reducible refine Lead.forInArray _ ?_ _ _; intro _ _)
      | (with_reducible refine Lead.forInRange _ ?_ _ _; intro _ _)
      | (with_reducible refine Lead.forInList _ ?_ _ _; intro _ _)
      | (with_reducible refine Lead.mapArray _ ?_ _; intro _)
      | (with_reducible refine Lead.foldlM _ ?_ _ _; intro _ _)
      | with_reducible assumption
      | with_reducible exact Lead.pure _
      | with_reducible exact Lead.stuck _
      | with_reducible exact Lead.unsupported _
      | with_reducible exact Lead.goPanic _
      | with_reducible exact Lead.asInt _
      | with_reducible exact Lead.asAddr h _
      | with_reducible exact Lead.load _ _
      | with_reducible exact Lead.frozen _
      | with_reducible exact Lead.slice h _ _ _ _ _
      | with_reducible exact Lead.noView _
      | with_reducible exact Lead.range h _ _
      | with_reducible refine Lead.bind ?_ (fun _ => ?_)
      | with_reducible refine Lead.map ?_
      | with_reducible refine Lead.iteH (fun _ => ?_) (fun _ => ?_)
      | split
      | dsimp only

theorem Lead.delete_ (h : Tab V) (a : Array TypeId) (t : TypeId) (x : Array Value) : Lead V (Builtin.delete_ a t x) := by
    unfold Builtin.delete_
    repeat' first
      | exact Lead.setObj _ _ rfl (by simp [Env.add])
      | (with_reducible refine Lead.getObjH h _ ?gk_ (.inr ?gd_) (fun _ _ h => ?_); (case gk_ => intros; rfl); (case gd_ => intro w_; refine ⟨_, _, rfl, ?_⟩; simp [Soft]))
      | (with_reducible refine Lead.forInArray _ ?_ _ _; intro _ _)
      | (with_reducible refine Lead.forInRange _ ?_ _ _; intro _ _)
      | (with_reducible refine Lead.forInList _ ?_ _ _; intro _ _)
      | (with_reducible refine Lead.mapArray _ ?_ _; intro _)
      | (with_reducible refine Lead.foldlM _ ?_ _ _; intro _ _)
      | with_reducible assumption
      | with_reducible exact Lead.pure _
      | with_reducible exact Lead.stuck _
      | with_reducible exact Lead.unsupported _
      | with_reducible exact Lead.goPanic _
      | with_reducible exact Lead.underlying h _
      | with_reducible exact Lead.checkKey h _ _ _ _
      | with_reducible exact Lead.findKey h _ _ _
      | with_reducible refine Lead.bind ?_ (fun _ => ?_)
      | with_reducible refine Lead.map ?_
      | with_reducible refine Lead.iteH (fun _ => ?_) (fun _ => ?_)
      | split
      | dsimp only

theorem Lead.typeAssert (h : Tab V) (x : Value) (s a : TypeId) (b : Bool) : Lead V (Instr.typeAssert x s a b) := by
    unfold Instr.typeAssert
    repeat' first
      | (with_reducible refine Lead.program ?eq_ ?_; (case eq_ => simp only [tables_holdsPacked h.tables, tables_stoodInHeld h.tables, tables_depth h.tables, tables_globals h.tables, tables_eqGuard h.tables, tables_info h.tables]))
      | (with_reducible refine Lead.getObjH h _ ?gk_ (.inr ?gd_) (fun _ _ h => ?_); (case gk_ => intros; rfl); (case gd_ => intro w_; refine ⟨_, _, rfl, ?_⟩; simp [Soft]))
      | (with_reducible refine Lead.forInArray _ ?_ _ _; intro _ _)
      | (with_reducible refine Lead.forInRange _ ?_ _ _; intro _ _)
      | (with_reducible refine Lead.forInList _ ?_ _ _; intro _ _)
      | (with_reducible refine Lead.mapArray _ ?_ _; intro _)
      | (with_reducible refine Lead.foldlM _ ?_ _ _; intro _ _)
      | with_reducible assumption
      | with_reducible exact Lead.pure _
      | with_reducible exact Lead.stuck _
      | with_reducible exact Lead.unsupported _
      | with_reducible exact Lead.goPanic _
      | with_reducible exact Lead.runtimePanic h _
      | with_reducible exact Lead.underlying h _
      | with_reducible exact Lead.typeInfo h _
      | with_reducible exact Lead.zeroValue h _
      | with_reducible exact Lead.field h _ _ _
      | with_reducible refine Lead.bind ?_ (fun _ => ?_)
      | with_reducible refine Lead.map ?_
      | with_reducible refine Lead.iteH (fun _ => ?_) (fun _ => ?_)
      | split
      | dsimp only
end
end Go.Proofs.YtnknfolnbhljfaaDoor.Lift
end

section
/- What asks a block's shape and goes on by it: walked alike, for in the shadow's empty blocks it comes to an end. -/
namespace Go.Proofs.YtnknfolnbhljfaaDoor.Lift
open Go Go.Conc
set_option linter.unusedSimpArgs false
set_option linter.unusedVariables false
section
variable {V : Env}
theorem Lead.shapeK {β : Type} {k : Option (TypeId × Nat) → Sem β} (r : Nat) (hl : ∀ o, Lead V (k o)) (hd : ∀ w, ∃ e w', (k none).run V.sh w = .halt e w' ∧ ¬ Soft e) : Lead V (Go.shape r >>= k) := by
  intro Bad w1 w2 m es2 hB hS hT
  show Leads V Bad m w1 w2 es2 ((Sem.bind (Go.shape r) k).run V.sh w1) ((Sem.bind (Go.shape r) k).runT V.re w2 es2)
  rw [Sem.run_bind' V.sh (Go.shape r) k w1, Sem.runT_bind' V.re (Go.shape r) k w2 es2]
  simp only [Go.shape, Sem.run, Sem.runT, Result.andThen]
  by_cases hb : Bad r
  · have hsh : w1.shape? r = none := by
      unfold World.shape?
      rw [hS.poison r hb]
      rfl
    rw [hsh]
    obtain ⟨e, w', h1, h2⟩ := hd w1
    rw [h1]
    exact fun h0 => absurd h0 h2
  · rw [hS.shapeSome hb]
    exact hl _ Bad w1 w2 m es2 hB hS hT
theorem tables_cellOfByte {P' P : Program} (h : P'.toTables = P.toTables) : ∀ (n : Nat), cellOfByte P' n = cellOfByte P n := by
  intro n
  induction n with
  | zero => funext t o; rfl
  | succ n ih =>
    funext t o
    unfold cellOfByte
    rw [ih]
    simp only [tables_under h, tables_cellsOf h, tables_bytesOf h]
theorem tables_cellAtBytes {P' P : Program} (h : P'.toTables = P.toTables) (n : Nat) : cellAtBytes P' n = cellAtBytes P n := by
  funext e c o b
  unfold cellAtBytes
  simp only [tables_cellsOf h, tables_bytesOf h, tables_byteOfCell h, tables_cellOfByte h]
theorem Lead.unsafeAdd_ (h : Tab V) (a : Array TypeId) (t : TypeId) (x : Array Value) : Lead V (Builtin.unsafeAdd_ a t x) := by
  have rest : ∀ (n : Int) (ptr : Option Addr), Lead V (match ptr with
      | some a => (do
        let some (e, cells) ← Go.shape a.block | Go.unsupported (.unsafePointer "Add")
        let p ← Go.program
        match cellAtBytes p p.depth e (cells / p.cellsOf e) a.off n with
        | some off => Pure.pure (Value.pointer (some { a with off }))
        | none => Go.unsupported (.unsafePointer "Add") : Sem Value)
      | _ => Go.unsupported (.unsafePointer "Add")) := by
    intro n ptr
    cases ptr with
    | some a =>
      refine Lead.shapeK _ (fun o => ?_) (fun w => ?_)
      · split
        · refine Lead.program (by simp only [tables_cellAtBytes h.tables, tables_cellsOf h.tables, tables_depth h.tables]) ?_
          split
          · exact Lead.pure _
          · exact Lead.unsupported _
        · exact Lead.unsupported _
      · exact ⟨_, _, rfl, by simp [Soft]⟩
    | none => exact Lead.unsupported _
  unfold Builtin.unsafeAdd_
  have bad : Lead V (Go.stuck "unsafe.Add: a pointer and an integer expected" : Sem Value) := Lead.stuck _
  by_cases hx : ∃ ptr l, x = #[Value.pointer ptr, l]
  · obtain ⟨ptr, l, rfl⟩ := hx
    refine Lead.bind (Lead.asInt _) fun n => ?_
    refine Lead.iteH (fun _ => ?_) (fun _ => ?_)
    · cases ptr with
      | some a =>
        refine Lead.bind (Lead.viewAt _) fun o => ?_
        refine Lead.iteH (fun _ => ?_) (fun _ => Lead.pure _)
        exact Lead.bind (Lead.unsupported _) fun _ => Lead.pure _
      | none =>
        refine Lead.bind (Lead.unsupported _) fun _ => ?_
        refine Lead.iteH (fun _ => ?_) (fun _ => ?_)
        · exact Lead.bind (Lead.unsupported _) fun _ => rest n none
        · exact rest n none
    · refine Lead.iteH (fun _ => ?_) (fun _ => ?_)
      · exact Lead.bind (Lead.unsupported _) fun _ => rest n _
      · exact rest n _
  · obtain ⟨l⟩ := x
    match l, hx with
    | [], _ => exact bad
    | [p], _ => exact bad
    | [p, q], hx => cases p <;> first | exact bad | exact absurd ⟨_, _, rfl⟩ hx
    | p :: q :: r :: s, _ => exact bad
theorem Lead.asNumber (a : Addr) (b : Bool) : Lead V (Go.asNumber a b) := Lead.bind (Lead.newObj _ rfl) fun _ => Lead.pure _
theorem Lead.movedNumber (h : Tab V) (t : TypeId) (x y : Value) : Lead V (Go.movedNumber t x y) := by
  unfold Go.movedNumber
  refine Lead.bind (Lead.underlying h _) fun d => ?_
  have rest : Lead V (match x with
      | .pointer (some n) => (do
        let (a, lost) ← Go.behindNumber n
        match ← Builtin.unsafeAdd_ #[] t #[.pointer (some a), y] with
        | .pointer (some b) => Go.asNumber b lost
        | v => Pure.pure v : Sem Value)
      | _ => Builtin.unsafeAdd_ #[] t #[x, y]) := by
    split
    · refine Lead.bind (Lead.behindNumber _) fun p => Lead.bind (Lead.unsafeAdd_ h _ _ _) fun v => ?_
      split
      · exact Lead.asNumber _ _
      · exact Lead.pure _
    · exact Lead.unsafeAdd_ h _ _ _
  refine Lead.iteH (fun _ => ?_) (fun _ => ?_)
  · exact Lead.bind (Lead.unsupported _) fun _ => rest
  · exact rest
theorem Lead.movedPointer (h : Tab V) (t : TypeId) (x y : Value) : Lead V (Go.movedPointer t x y) := by
  unfold Go.movedPointer
  split
  · refine Lead.bind (Lead.numberAt _) fun o => ?_
    refine Lead.iteH (fun _ => ?_) (fun _ => ?_)
    · exact Lead.bind (Lead.unsupported _) fun _ => Lead.unsafeAdd_ h _ _ _
    · exact Lead.unsafeAdd_ h _ _ _
  · exact Lead.unsafeAdd_ h _ _ _
theorem Lead.twoPlaces (h : Tab V) (a b : Addr) : Lead V (Op.twoPlaces a b) := by
  unfold Op.twoPlaces
  refine Lead.program (by simp only [tables_globals h.tables]) ?_
  refine Lead.iteH (fun _ => ?_) (fun hc => ?_)
  · by_cases hc : a.block < V.re.globals.size ∧ b.block < V.re.globals.size
    · exact Lead.bind (Lead.unsupported _) fun _ => Lead.bind (Lead.byteOfG h a hc.1) fun _ => Lead.bind (Lead.byteOfG h b hc.2) fun _ => Lead.pure _
    · refine Lead.dead fun w => ⟨_, w, rfl, by simp [Soft]⟩
  · simp only [Bool.or_eq_true, bne_iff_ne, ne_eq, decide_eq_true_eq, not_or, Decidable.not_not] at hc
    exact Lead.bind (Lead.byteOfG h a (by omega)) fun _ => Lead.bind (Lead.byteOfG h b (by omega)) fun _ => Lead.pure _
theorem Lead.addrSub (h : Tab V) (k : IntKind) (a b : Addr) : Lead V (Op.addrSub k a b) := Lead.bind (Lead.twoPlaces h a b) fun _ => Lead.pure _
theorem Lead.addrCmp (h : Tab V) (o : BinOp) (a b : Addr) : Lead V (Op.addrCmp o a b) := by
  unfold Op.addrCmp
  refine Lead.bind (Lead.twoPlaces h a b) fun p => ?_
  dsimp only
  split <;> first | exact Lead.pure _ | exact Lead.unsupported _
/-- The shape of a block is asked: what follows may lean on its not being shunned. -/
theorem Lead.shapeH {β : Type} {k : Option (TypeId × Nat) → Sem β} (h : Tab V) (r : Nat) (hd : ∀ w, ∃ e w', (k none).run V.sh w = .halt e w' ∧ ¬ Soft e) (hl : ∀ o, Tab (V.add r) → Lead (V.add r) (k o)) : Lead V (Go.shape r >>= k) := by
  intro Bad w1 w2 m es2 hB hS hT
  show Leads V Bad m w1 w2 es2 ((Sem.bind (Go.shape r) k).run V.sh w1) ((Sem.bind (Go.shape r) k).runT V.re w2 es2)
  rw [Sem.run_bind' V.sh (Go.shape r) k w1, Sem.runT_bind' V.re (Go.shape r) k w2 es2]
  simp only [Go.shape, Sem.run, Sem.runT, Result.andThen]
  by_cases hb : Bad r
  · have hsh : w1.shape? r = none := by
      unfold World.shape?
      rw [hS.poison r hb]
      rfl
    rw [hsh]
    obtain ⟨e, w', h1, h2⟩ := hd w1
    rw [h1]
    exact fun h0 => absurd h0 h2
  · rw [hS.shapeSome hb]
    have h3 := hl (w1.shape? r) (h.add r) Bad w1 w2 m es2 (fun i hi => hi.elim (hB i) (fun e => e ▸ hb)) hS.add hT
    unfold Leads at h3 ⊢
    rw [show (V.add r).sh = V.sh from rfl] at h3
    revert h3
    cases (k (w1.shape? r)).run V.sh w1 with
    | ok a v1 =>
      intro h3 hm
      obtain ⟨v2, n, e1, o1⟩ := h3 hm
      exact ⟨v2, n, e1, o1.strip⟩
    | halt a v1 =>
      intro h3 hh hm
      obtain ⟨rd, v2, n, e1, o1⟩ := h3 hh hm
      exact ⟨rd, v2, n, e1, o1.strip⟩
theorem Lead.addrMod (h : Tab V) (k : IntKind) (a : Addr) (n : Int) : Lead V (Op.addrMod k a n) := by
  unfold Op.addrMod
  refine Lead.shapeH h _ (fun w => ⟨_, _, rfl, by simp [Soft]⟩) fun o h2 => ?_
  split
  · refine Lead.bind (Lead.typeInfo h2 _) fun i => ?_
    dsimp only
    refine Lead.iteH (fun _ => ?_) (fun _ => ?_)
    · exact Lead.bind (Lead.unsupported _) fun _ => Lead.bind (Lead.byteOf h2 _ (.inr rfl)) fun _ => Lead.pure _
    · exact Lead.bind (Lead.byteOf h2 _ (.inr rfl)) fun _ => Lead.pure _
  · exact Lead.unsupported _
theorem Lead.binOp (h : Tab V) (o : BinOp) (t : TypeId) (x y : Value) : Lead V (Go.binOp o t x y) := by
  unfold Go.binOp
  split <;> first
    | exact Lead.shift h _ _ _ _ _
    | (split <;> first | exact Lead.stuck _ | (split <;> first | exact Lead.intArith h _ _ _ _ | exact Lead.intDiv h _ _ _ _ | exact Lead.intBits h _ _ _ _ | exact Lead.intCmp h _ _ _ | exact Lead.floatArith h _ _ _ _ | exact Lead.floatCmp h _ _ _ _) | exact Lead.complexOp h _ _ _ _ _ _)
    | exact Lead.stringOp h _ _ _
    | exact Lead.bind (Lead.equal h _ _ _) fun _ => Lead.pure _
    | exact Lead.bind (Lead.underlying h _) fun _ => Lead.iteH (fun _ => Lead.movedPointer h _ _ _) (fun _ => Lead.movedNumber h _ _ _)
    | exact Lead.movedNumber h _ _ _
    | exact Lead.bind (Lead.behindNumber _) fun _ => Lead.bind (Lead.behindNumber _) fun _ => Lead.addrSub h _ _ _
    | exact Lead.bind (Lead.behindNumber _) fun _ => Lead.bind (Lead.behindNumber _) fun _ => Lead.addrCmp h _ _ _
    | exact Lead.bind (Lead.behindNumber _) fun _ => Lead.addrMod h _ _ _
    | exact Lead.unsupported _
    | exact Lead.stuck _
/-- The byte at which a place lies: in the shadow it comes to an end at the hollow block. -/
theorem Lead.byteOfAny (h : Tab V) (a : Addr) : Lead V (Go.byteOf a) := by
  unfold Go.byteOf
  split
  · exact Lead.pure _
  · refine Lead.program (by simp only [tables_cellsOf h.tables, tables_bytesOf h.tables, tables_byteOfCell h.tables, tables_depth h.tables]) ?_
    refine Lead.bind (Lead.noView _) fun _ => Lead.shapeH h _ (fun w => ⟨_, _, rfl, by simp [Soft]⟩) fun o h2 => ?_
    split
    · dsimp only
      split
      · exact Lead.pure _
      · split
        · exact Lead.pure _
        · exact Lead.stuck _
    · exact Lead.stuck _
theorem Lead.partAt (h : Tab V) (a : Addr) (c b : Nat) : Lead V (Go.partAt a c b) := by
  unfold Go.partAt
  exact Lead.bind (Lead.byteOfAny h _) fun _ => Lead.bind (Lead.byteOfAny h _) fun _ => Lead.pure _
theorem Lead.fieldPlace (h : Tab V) (a : Addr) (f : Field) : Lead V (Go.fieldPlace a f) := by
  unfold Go.fieldPlace
  exact Lead.bind (Lead.sizeOf h _) fun _ => Lead.ite (Lead.partAt h _ _ _) (Lead.pure _)
theorem Lead.fieldAt (h : Tab V) (s : TypeId) (a : Value) (f : Nat) : Lead V (Instr.fieldAt s a f) := by
  unfold Instr.fieldAt
  refine Lead.bind (Lead.underlying h _) fun d => ?_
  split
  · split
    · exact Lead.bind (Lead.sureAddr _) fun _ => Lead.bind (Lead.fieldPlace h _ _) fun _ => Lead.pure _
    · exact Lead.stuck _
  · exact Lead.stuck _
theorem Lead.placeGet (h : Tab V) (t : TypeId) (x : Place) : Lead V (x.get t) := by
  cases x with
  | val v => exact Lead.pure _
  | var a => exact Lead.loadVar h _ _
theorem Lead.follow (h : Tab V) : ∀ (l : List FieldStep) (t : TypeId) (x : Place), Lead V (Go.follow l t x)
  | [], _, _ => Lead.pure _
  | s :: l, t, x => by
    unfold Go.follow
    refine Lead.bind (Lead.underlying h _) fun d => ?_
    split
    · split
      · refine Lead.iteH (fun _ => ?_) (fun _ => ?_)
        · exact Lead.bind (Lead.placeGet h _ _) fun _ => Lead.bind (Lead.asAddr h _) fun _ => Lead.bind (Lead.fieldPlace h _ _) fun _ => Lead.follow h l _ _
        · split
          · exact Lead.bind (Lead.fieldPlace h _ _) fun _ => Lead.follow h l _ _
          · exact Lead.bind (Lead.part h _ _ _) fun _ => Lead.follow h l _ _
          · exact Lead.stuck _
      · exact Lead.stuck _
    · exact Lead.stuck _
end
end Go.Proofs.YtnknfolnbhljfaaDoor.Lift
end

section
/- Methods, calls, conversions, 'append': walked alike; printed by a program of mine (gen_ops4.py). -/
namespace Go.Proofs.YtnknfolnbhljfaaDoor.Lift
open Go Go.Conc
set_option linter.unusedVariables false
set_option linter.unusedSimpArgs false
section
variable {V : Env}
theorem Lead.ssaW (h : Tab V) (a : Array TypeId) (t : TypeId) (p : Value) (s m : ByteArray) : Lead V (Builtin.ssaWrapNilChk_ a t #[p, .string s, .string m]) := by
    unfold Builtin.ssaWrapNilChk_
    cases p <;> first | exact Lead.stuck _ | skip
    rename_i o
    cases o with
    | some _ => exact Lead.pure _
    | none =>
    refine Lead.bind (Lead.choose _) fun c => ?_
    dsimp only
    repeat' first
      | exact Lead.setObj _ _ rfl (by simp [Env.add])
      | exact Lead.newObj _ rfl
      | (with_reducible refine Lead.newObj _ ?_; split <;> rfl)
      | (with_reducible refine Lead.program ?eq_ ?_; (case eq_ => simp only [tables_holdsPacked h.tables, tables_stoodInHeld h.tables, tables_depth h.tables, tables_globals h.tables, tables_eqGuard h.tables, tables_info h.tables]))
      | (refine Lead.byteOfG h _ ?_; simp_all; done)
      | (refine Lead.byteOfG h _ ?_; simp_all; omega)
      | (with_reducible refine Lead.getObjH h _ ?gk_ (.inr ?gd_) (fun _ _ h => ?_); (case gk_ => intros; rfl); (case gd_ => intro w_; refine ⟨_, _, rfl, ?_⟩; simp [Soft]))
      | (with_reducible refine Lead.forInArray _ ?_ _ _; intro _ _)
      | (with_reducible refine Lead.forInRange _ ?_ _ _; intro _ _)
      | (with_reducible refine Lead.forInList _ ?_ _ _; intro _ _)
      | (with_reducible refine Lead.mapArray _ ?_ _; intro _)
      | (with_reducible refine Lead.foldlM _ ?_ _ _; intro _ _)
      | with_reducible assumption
      | with_reducible exact Lead.pure _
      | with_reducible exact Lead.stuck _
      | with_reducible exact Lead.unsupported _
      | with_reducible exact Lead.goPanic _

      | with_reducible exact Lead.runtimePanic h _
      | with_reducible exact Lead.boundsPanic h _ _ _ _
      | with_reducible exact Lead.underlying h _
      | with_reducible exact Lead.typeInfo h _
      | with_reducible exact Lead.zeroValue h _
      | with_reducible exact Lead.sizeOf h _
      | with_reducible exact Lead.isAgg h _
      | with_reducible exact Lead.loadCells _ _
      | with_reducible exact Lead.storeCells _ _ _
      | with_reducible exact Lead.loadVar h _ _
      | with_reducible exact Lead.storeVar h _ _ _
      | with_reducible exact Lead.newRow _ _
      | with_reducible exact Lead.newVar _ _
      | with_reducible exact Lead.elemOf h _
      | with_reducible exact Lead.part h _ _ _
      | with_reducible exact Lead.asIntOf _
      | with_reducible exact Lead.asInt _
      | with_reducible exact Lead.asBool _
      | with_reducible exact Lead.asString _
      | with_reducible exact Lead.asAgg _
      | with_reducible exact Lead.asAddr h _
      | with_reducible exact Lead.sureAddr _
      | with_reducible exact Lead.load _ _
      | with_reducible exact Lead.store _ _ _
      | with_reducible exact Lead.choose _
      | with_reducible exact Lead.frozen _
      | with_reducible exact Lead.askRoom _
      | with_reducible exact Lead.typeStr h _
      | with_reducible exact Lead.loadAt h _ _
      | with_reducible exact Lead.storeAt h _ _ _
      | with_reducible exact Lead.alloc h _ _ _
      | with_reducible exact Lead.box h _ _
      | with_reducible exact Lead.field h _ _ _
      | with_reducible exact Lead.index h _ _ _
      | with_reducible exact Lead.indexAt h _ _ _
      | with_reducible exact Lead.sliceBound h _ _ _
      | with_reducible exact Lead.sliceBounds h _ _ _ _ _ _
      | with_reducible exact Lead.slice h _ _ _ _ _
      | with_reducible exact Lead.sliceAt h _ _ _ _ _
      | with_reducible exact Lead.arrayAt h _ _
      | with_reducible exact Lead.makeInterface h _ _
      | with_reducible exact Lead.makeFunc h _ _ _
      | with_reducible exact Lead.extract h _ _
      | with_reducible exact Lead.buildSlice h _ _ _
      | with_reducible exact Lead.makeSlice h _ _ _
      | with_reducible exact Lead.intArith h _ _ _ _
      | with_reducible exact Lead.intDiv h _ _ _ _
      | with_reducible exact Lead.intBits h _ _ _ _
      | with_reducible exact Lead.shift h _ _ _ _ _
      | with_reducible exact Lead.intCmp h _ _ _
      | with_reducible exact Lead.stringOp h _ _ _
      | with_reducible exact Lead.unary h _ _
      | with_reducible exact Lead.len_ h _ _ _
      | with_reducible exact Lead.cap_ h _ _ _
      | with_reducible exact Lead.lenOf h _
      | with_reducible exact Lead.firstCells h _ _ _
      | with_reducible exact Lead.copy_ h _ _ _
      | with_reducible exact Lead.checkKey h _ _ _ _
      | with_reducible exact Lead.bytesToString h _
      | with_reducible exact Lead.behindNumber _
      | with_reducible exact Lead.sameAddr _ _
      | with_reducible exact Lead.samePointer _ _
      | with_reducible exact Lead.noView _
      | with_reducible exact Lead.viewAt _
      | with_reducible exact Lead.numberAt _
      | with_reducible exact Lead.equalIn h _ _ _ _
      | with_reducible exact Lead.eqGuardIn h _ _ _ _
      | with_reducible exact Lead.equal h _ _ _
      | with_reducible exact Lead.eqGuard h _ _ _ _ _ _
      | with_reducible exact Lead.floatArith h _ _ _ _
      | with_reducible exact Lead.floatCmp h _ _ _ _
      | with_reducible exact Lead.floatToFloat h _ _ _
      | with_reducible exact Lead.floatToInt h _ _ _
      | with_reducible exact Lead.cArith h _ _ _ _
      | with_reducible exact Lead.cCmp h _ _ _ _
      | with_reducible exact Lead.cConv h _ _ _
      | with_reducible exact Lead.cadd h _ _
      | with_reducible exact Lead.csub h _ _
      | with_reducible exact Lead.cmul h _ _
      | with_reducible exact Lead.cquo h _ _
      | with_reducible exact Lead.cProduct h _ _ _ _
      | with_reducible exact Lead.cCorrected h _ _ _ _ _
      | with_reducible exact Lead.cQuotient h _ _ _ _
      | with_reducible exact Lead.complexOp h _ _ _ _ _ _
      | with_reducible exact Lead.complexToComplex h _ _ _ _
      | with_reducible exact Lead.max2 h _ _
      | with_reducible exact Lead.min2 h _ _
      | with_reducible exact Lead.max_ h _ _ _
      | with_reducible exact Lead.min_ h _ _ _
      | with_reducible exact Lead.clear_ h _ _ _
      | with_reducible exact Lead.stringToRunes h _ _
      | with_reducible exact Lead.runesToString h _
      | with_reducible exact Lead.findAsking h _ _ _ _
      | with_reducible exact Lead.findKey h _ _ _
      | with_reducible exact Lead.lookup h _ _ _ _
      | with_reducible exact Lead.keyThatStays h _ _
      | with_reducible exact Lead.mapUpdate h _ _ _ _
      | with_reducible exact Lead.mapEntry h _ _ _
      | with_reducible exact Lead.entryStore h _ _ _ _
      | with_reducible exact Lead.makeMap h _ _
      | with_reducible exact Lead.makeChan h _ _
      | with_reducible exact Lead.range h _ _
      | with_reducible exact Lead.next h _ _
      | with_reducible exact Lead.entry h _
      | with_reducible exact Lead.delete_ h _ _ _
      | with_reducible exact Lead.typeAssert h _ _ _ _
      | with_reducible exact Lead.fieldPlace h _ _
      | with_reducible exact Lead.fieldAt h _ _ _
      | with_reducible exact Lead.placeGet h _ _
      | with_reducible exact Lead.follow h _ _ _
      | with_reducible exact Lead.binOp h _ _ _ _
      | with_reducible exact Lead.movedNumber h _ _ _
      | with_reducible refine Lead.bind ?_ (fun _ => ?_)
      | with_reducible refine Lead.map ?_
      | with_reducible refine Lead.iteH (fun _ => ?_) (fun _ => ?_)
      | split
      | dsimp only

theorem Lead.receiverAt (h : Tab V) (t : TypeId) (x : Place) (b : Bool) (w : Option String) : Lead V (Go.receiverAt t x b w) := by
    unfold Go.receiverAt
    unfold strVal
    repeat' first
      | exact Lead.setObj _ _ rfl (by simp [Env.add])
      | exact Lead.newObj _ rfl
      | (with_reducible refine Lead.newObj _ ?_; split <;> rfl)
      | (with_reducible refine Lead.program ?eq_ ?_; (case eq_ => simp only [tables_holdsPacked h.tables, tables_stoodInHeld h.tables, tables_depth h.tables, tables_globals h.tables, tables_eqGuard h.tables, tables_info h.tables]))
      | (refine Lead.byteOfG h _ ?_; simp_all; done)
      | (refine Lead.byteOfG h _ ?_; simp_all; omega)
      | (with_reducible refine Lead.getObjH h _ ?gk_ (.inr ?gd_) (fun _ _ h => ?_); (case gk_ => intros; rfl); (case gd_ => intro w_; refine ⟨_, _, rfl, ?_⟩; simp [Soft]))
      | (with_reducible refine Lead.forInArray _ ?_ _ _; intro _ _)
      | (with_reducible refine Lead.forInRange _ ?_ _ _; intro _ _)
      | (with_reducible refine Lead.forInList _ ?_ _ _; intro _ _)
      | (with_reducible refine Lead.mapArray _ ?_ _; intro _)
      | (with_reducible refine Lead.foldlM _ ?_ _ _; intro _ _)
      | with_reducible assumption
      | with_reducible exact Lead.pure _
      | with_reducible exact Lead.stuck _
      | with_reducible exact Lead.unsupported _
      | with_reducible exact Lead.goPanic _

      | with_reducible exact Lead.runtimePanic h _
      | with_reducible exact Lead.boundsPanic h _ _ _ _
      | with_reducible exact Lead.underlying h _
      | with_reducible exact Lead.typeInfo h _
      | with_reducible exact Lead.zeroValue h _
      | with_reducible exact Lead.sizeOf h _
      | with_reducible exact Lead.isAgg h _
      | with_reducible exact Lead.loadCells _ _
      | with_reducible exact Lead.storeCells _ _ _
      | with_reducible exact Lead.loadVar h _ _
      | with_reducible exact Lead.storeVar h _ _ _
      | with_reducible exact Lead.newRow _ _
      | with_reducible exact Lead.newVar _ _
      | with_reducible exact Lead.elemOf h _
      | with_reducible exact Lead.part h _ _ _
      | with_reducible exact Lead.asIntOf _
      | with_reducible exact Lead.asInt _
      | with_reducible exact Lead.asBool _
      | with_reducible exact Lead.asString _
      | with_reducible exact Lead.asAgg _
      | with_reducible exact Lead.asAddr h _
      | with_reducible exact Lead.sureAddr _
      | with_reducible exact Lead.load _ _
      | with_reducible exact Lead.store _ _ _
      | with_reducible exact Lead.choose _
      | with_reducible exact Lead.frozen _
      | with_reducible exact Lead.askRoom _
      | with_reducible exact Lead.typeStr h _
      | with_reducible exact Lead.loadAt h _ _
      | with_reducible exact Lead.storeAt h _ _ _
      | with_reducible exact Lead.alloc h _ _ _
      | with_reducible exact Lead.box h _ _
      | with_reducible exact Lead.field h _ _ _
      | with_reducible exact Lead.index h _ _ _
      | with_reducible exact Lead.indexAt h _ _ _
      | with_reducible exact Lead.sliceBound h _ _ _
      | with_reducible exact Lead.sliceBounds h _ _ _ _ _ _
      | with_reducible exact Lead.slice h _ _ _ _ _
      | with_reducible exact Lead.sliceAt h _ _ _ _ _
      | with_reducible exact Lead.arrayAt h _ _
      | with_reducible exact Lead.makeInterface h _ _
      | with_reducible exact Lead.makeFunc h _ _ _
      | with_reducible exact Lead.extract h _ _
      | with_reducible exact Lead.buildSlice h _ _ _
      | with_reducible exact Lead.makeSlice h _ _ _
      | with_reducible exact Lead.intArith h _ _ _ _
      | with_reducible exact Lead.intDiv h _ _ _ _
      | with_reducible exact Lead.intBits h _ _ _ _
      | with_reducible exact Lead.shift h _ _ _ _ _
      | with_reducible exact Lead.intCmp h _ _ _
      | with_reducible exact Lead.stringOp h _ _ _
      | with_reducible exact Lead.unary h _ _
      | with_reducible exact Lead.len_ h _ _ _
      | with_reducible exact Lead.cap_ h _ _ _
      | with_reducible exact Lead.lenOf h _
      | with_reducible exact Lead.firstCells h _ _ _
      | with_reducible exact Lead.copy_ h _ _ _
      | with_reducible exact Lead.checkKey h _ _ _ _
      | with_reducible exact Lead.bytesToString h _
      | with_reducible exact Lead.behindNumber _
      | with_reducible exact Lead.sameAddr _ _
      | with_reducible exact Lead.samePointer _ _
      | with_reducible exact Lead.noView _
      | with_reducible exact Lead.viewAt _
      | with_reducible exact Lead.numberAt _
      | with_reducible exact Lead.equalIn h _ _ _ _
      | with_reducible exact Lead.eqGuardIn h _ _ _ _
      | with_reducible exact Lead.equal h _ _ _
      | with_reducible exact Lead.eqGuard h _ _ _ _ _ _
      | with_reducible exact Lead.floatArith h _ _ _ _
      | with_reducible exact Lead.floatCmp h _ _ _ _
      | with_reducible exact Lead.floatToFloat h _ _ _
      | with_reducible exact Lead.floatToInt h _ _ _
      | with_reducible exact Lead.cArith h _ _ _ _
      | with_reducible exact Lead.cCmp h _ _ _ _
      | with_reducible exact Lead.cConv h _ _ _
      | with_reducible exact Lead.cadd h _ _
      | with_reducible exact Lead.csub h _ _
      | with_reducible exact Lead.cmul h _ _
      | with_reducible exact Lead.cquo h _ _
      | with_reducible exact Lead.cProduct h _ _ _ _
      | with_reducible exact Lead.cCorrected h _ _ _ _ _
      | with_reducible exact Lead.cQuotient h _ _ _ _
      | with_reducible exact Lead.complexOp h _ _ _ _ _ _
      | with_reducible exact Lead.complexToComplex h _ _ _ _
      | with_reducible exact Lead.max2 h _ _
      | with_reducible exact Lead.min2 h _ _
      | with_reducible exact Lead.max_ h _ _ _
      | with_reducible exact Lead.min_ h _ _ _
      | with_reducible exact Lead.clear_ h _ _ _
      | with_reducible exact Lead.stringToRunes h _ _
      | with_reducible exact Lead.runesToString h _
      | with_reducible exact Lead.findAsking h _ _ _ _
      | with_reducible exact Lead.findKey h _ _ _
      | with_reducible exact Lead.lookup h _ _ _ _
      | with_reducible exact Lead.keyThatStays h _ _
      | with_reducible exact Lead.mapUpdate h _ _ _ _
      | with_reducible exact Lead.mapEntry h _ _ _
      | with_reducible exact Lead.entryStore h _ _ _ _
      | with_reducible exact Lead.makeMap h _ _
      | with_reducible exact Lead.makeChan h _ _
      | with_reducible exact Lead.range h _ _
      | with_reducible exact Lead.next h _ _
      | with_reducible exact Lead.entry h _
      | with_reducible exact Lead.delete_ h _ _ _
      | with_reducible exact Lead.typeAssert h _ _ _ _
      | with_reducible exact Lead.fieldPlace h _ _
      | with_reducible exact Lead.fieldAt h _ _ _
      | with_reducible exact Lead.placeGet h _ _
      | with_reducible exact Lead.follow h _ _ _
      | with_reducible exact Lead.binOp h _ _ _ _
      | with_reducible exact Lead.movedNumber h _ _ _
      | with_reducible exact Lead.ssaW h _ _ _ _ _
      | with_reducible refine Lead.bind ?_ (fun _ => ?_)
      | with_reducible refine Lead.map ?_
      | with_reducible refine Lead.iteH (fun _ => ?_) (fun _ => ?_)
      | split
      | dsimp only

theorem Lead.receiverVia (h : Tab V) (t : TypeId) (v : Value) (p : Array FieldStep) (b : Bool) : Lead V (Go.receiverVia t v p b) := by
    unfold Go.receiverVia
    repeat' first
      | exact Lead.setObj _ _ rfl (by simp [Env.add])
      | exact Lead.newObj _ rfl
      | (with_reducible refine Lead.newObj _ ?_; split <;> rfl)
      | (with_reducible refine Lead.program ?eq_ ?_; (case eq_ => simp only [tables_holdsPacked h.tables, tables_stoodInHeld h.tables, tables_depth h.tables, tables_globals h.tables, tables_eqGuard h.tables, tables_info h.tables]))
      | (refine Lead.byteOfG h _ ?_; simp_all; done)
      | (refine Lead.byteOfG h _ ?_; simp_all; omega)
      | (with_reducible refine Lead.getObjH h _ ?gk_ (.inr ?gd_) (fun _ _ h => ?_); (case gk_ => intros; rfl); (case gd_ => intro w_; refine ⟨_, _, rfl, ?_⟩; simp [Soft]))
      | (with_reducible refine Lead.forInArray _ ?_ _ _; intro _ _)
      | (with_reducible refine Lead.forInRange _ ?_ _ _; intro _ _)
      | (with_reducible refine Lead.forInList _ ?_ _ _; intro _ _)
      | (with_reducible refine Lead.mapArray _ ?_ _; intro _)
      | (with_reducible refine Lead.foldlM _ ?_ _ _; intro _ _)
      | with_reducible assumption
      | with_reducible exact Lead.pure _
      | with_reducible exact Lead.stuck _
      | with_reducible exact Lead.unsupported _
      | with_reducible exact Lead.goPanic _

      | with_reducible exact Lead.runtimePanic h _
      | with_reducible exact Lead.boundsPanic h _ _ _ _
      | with_reducible exact Lead.underlying h _
      | with_reducible exact Lead.typeInfo h _
      | with_reducible exact Lead.zeroValue h _
      | with_reducible exact Lead.sizeOf h _
      | with_reducible exact Lead.isAgg h _
      | with_reducible exact Lead.loadCells _ _
      | with_reducible exact Lead.storeCells _ _ _
      | with_reducible exact Lead.loadVar h _ _
      | with_reducible exact Lead.storeVar h _ _ _
      | with_reducible exact Lead.newRow _ _
      | with_reducible exact Lead.newVar _ _
      | with_reducible exact Lead.elemOf h _
      | with_reducible exact Lead.part h _ _ _
      | with_reducible exact Lead.asIntOf _
      | with_reducible exact Lead.asInt _
      | with_reducible exact Lead.asBool _
      | with_reducible exact Lead.asString _
      | with_reducible exact Lead.asAgg _
      | with_reducible exact Lead.asAddr h _
      | with_reducible exact Lead.sureAddr _
      | with_reducible exact Lead.load _ _
      | with_reducible exact Lead.store _ _ _
      | with_reducible exact Lead.choose _
      | with_reducible exact Lead.frozen _
      | with_reducible exact Lead.askRoom _
      | with_reducible exact Lead.typeStr h _
      | with_reducible exact Lead.loadAt h _ _
      | with_reducible exact Lead.storeAt h _ _ _
      | with_reducible exact Lead.alloc h _ _ _
      | with_reducible exact Lead.box h _ _
      | with_reducible exact Lead.field h _ _ _
      | with_reducible exact Lead.index h _ _ _
      | with_reducible exact Lead.indexAt h _ _ _
      | with_reducible exact Lead.sliceBound h _ _ _
      | with_reducible exact Lead.sliceBounds h _ _ _ _ _ _
      | with_reducible exact Lead.slice h _ _ _ _ _
      | with_reducible exact Lead.sliceAt h _ _ _ _ _
      | with_reducible exact Lead.arrayAt h _ _
      | with_reducible exact Lead.makeInterface h _ _
      | with_reducible exact Lead.makeFunc h _ _ _
      | with_reducible exact Lead.extract h _ _
      | with_reducible exact Lead.buildSlice h _ _ _
      | with_reducible exact Lead.makeSlice h _ _ _
      | with_reducible exact Lead.intArith h _ _ _ _
      | with_reducible exact Lead.intDiv h _ _ _ _
      | with_reducible exact Lead.intBits h _ _ _ _
      | with_reducible exact Lead.shift h _ _ _ _ _
      | with_reducible exact Lead.intCmp h _ _ _
      | with_reducible exact Lead.stringOp h _ _ _
      | with_reducible exact Lead.unary h _ _
      | with_reducible exact Lead.len_ h _ _ _
      | with_reducible exact Lead.cap_ h _ _ _
      | with_reducible exact Lead.lenOf h _
      | with_reducible exact Lead.firstCells h _ _ _
      | with_reducible exact Lead.copy_ h _ _ _
      | with_reducible exact Lead.checkKey h _ _ _ _
      | with_reducible exact Lead.bytesToString h _
      | with_reducible exact Lead.behindNumber _
      | with_reducible exact Lead.sameAddr _ _
      | with_reducible exact Lead.samePointer _ _
      | with_reducible exact Lead.noView _
      | with_reducible exact Lead.viewAt _
      | with_reducible exact Lead.numberAt _
      | with_reducible exact Lead.equalIn h _ _ _ _
      | with_reducible exact Lead.eqGuardIn h _ _ _ _
      | with_reducible exact Lead.equal h _ _ _
      | with_reducible exact Lead.eqGuard h _ _ _ _ _ _
      | with_reducible exact Lead.floatArith h _ _ _ _
      | with_reducible exact Lead.floatCmp h _ _ _ _
      | with_reducible exact Lead.floatToFloat h _ _ _
      | with_reducible exact Lead.floatToInt h _ _ _
      | with_reducible exact Lead.cArith h _ _ _ _
      | with_reducible exact Lead.cCmp h _ _ _ _
      | with_reducible exact Lead.cConv h _ _ _
      | with_reducible exact Lead.cadd h _ _
      | with_reducible exact Lead.csub h _ _
      | with_reducible exact Lead.cmul h _ _
      | with_reducible exact Lead.cquo h _ _
      | with_reducible exact Lead.cProduct h _ _ _ _
      | with_reducible exact Lead.cCorrected h _ _ _ _ _
      | with_reducible exact Lead.cQuotient h _ _ _ _
      | with_reducible exact Lead.complexOp h _ _ _ _ _ _
      | with_reducible exact Lead.complexToComplex h _ _ _ _
      | with_reducible exact Lead.max2 h _ _
      | with_reducible exact Lead.min2 h _ _
      | with_reducible exact Lead.max_ h _ _ _
      | with_reducible exact Lead.min_ h _ _ _
      | with_reducible exact Lead.clear_ h _ _ _
      | with_reducible exact Lead.stringToRunes h _ _
      | with_reducible exact Lead.runesToString h _
      | with_reducible exact Lead.findAsking h _ _ _ _
      | with_reducible exact Lead.findKey h _ _ _
      | with_reducible exact Lead.lookup h _ _ _ _
      | with_reducible exact Lead.keyThatStays h _ _
      | with_reducible exact Lead.mapUpdate h _ _ _ _
      | with_reducible exact Lead.mapEntry h _ _ _
      | with_reducible exact Lead.entryStore h _ _ _ _
      | with_reducible exact Lead.makeMap h _ _
      | with_reducible exact Lead.makeChan h _ _
      | with_reducible exact Lead.range h _ _
      | with_reducible exact Lead.next h _ _
      | with_reducible exact Lead.entry h _
      | with_reducible exact Lead.delete_ h _ _ _
      | with_reducible exact Lead.typeAssert h _ _ _ _
      | with_reducible exact Lead.fieldPlace h _ _
      | with_reducible exact Lead.fieldAt h _ _ _
      | with_reducible exact Lead.placeGet h _ _
      | with_reducible exact Lead.follow h _ _ _
      | with_reducible exact Lead.binOp h _ _ _ _
      | with_reducible exact Lead.movedNumber h _ _ _
      | with_reducible exact Lead.ssaW h _ _ _ _ _
      | with_reducible exact Lead.receiverAt h _ _ _ _
      | with_reducible refine Lead.bind ?_ (fun _ => ?_)
      | with_reducible refine Lead.map ?_
      | with_reducible refine Lead.iteH (fun _ => ?_) (fun _ => ?_)
      | split
      | dsimp only

theorem Lead.method (h : Tab V) : ∀ (n : Nat) (t : TypeId) (v : Value) (name : String), Lead V (Go.method n t v name) := by
    intro n
    induction n with
    | zero => intros; exact Lead.soft _
    | succ n ih =>
    intros
    unfold Go.method
    repeat' first
      | exact Lead.setObj _ _ rfl (by simp [Env.add])
      | exact Lead.newObj _ rfl
      | (with_reducible refine Lead.newObj _ ?_; split <;> rfl)
      | (with_reducible refine Lead.program ?eq_ ?_; (case eq_ => simp only [tables_holdsPacked h.tables, tables_stoodInHeld h.tables, tables_depth h.tables, tables_globals h.tables, tables_eqGuard h.tables, tables_info h.tables]))
      | (refine Lead.byteOfG h _ ?_; simp_all; done)
      | (refine Lead.byteOfG h _ ?_; simp_all; omega)
      | (with_reducible refine Lead.getObjH h _ ?gk_ (.inr ?gd_) (fun _ _ h => ?_); (case gk_ => intros; rfl); (case gd_ => intro w_; refine ⟨_, _, rfl, ?_⟩; simp [Soft]))
      | (with_reducible refine Lead.forInArray _ ?_ _ _; intro _ _)
      | (with_reducible refine Lead.forInRange _ ?_ _ _; intro _ _)
      | (with_reducible refine Lead.forInList _ ?_ _ _; intro _ _)
      | (with_reducible refine Lead.mapArray _ ?_ _; intro _)
      | (with_reducible refine Lead.foldlM _ ?_ _ _; intro _ _)
      | with_reducible assumption
      | with_reducible exact Lead.pure _
      | with_reducible exact Lead.stuck _
      | with_reducible exact Lead.unsupported _
      | with_reducible exact Lead.goPanic _

      | with_reducible exact Lead.runtimePanic h _
      | with_reducible exact Lead.boundsPanic h _ _ _ _
      | with_reducible exact Lead.underlying h _
      | with_reducible exact Lead.typeInfo h _
      | with_reducible exact Lead.zeroValue h _
      | with_reducible exact Lead.sizeOf h _
      | with_reducible exact Lead.isAgg h _
      | with_reducible exact Lead.loadCells _ _
      | with_reducible exact Lead.storeCells _ _ _
      | with_reducible exact Lead.loadVar h _ _
      | with_reducible exact Lead.storeVar h _ _ _
      | with_reducible exact Lead.newRow _ _
      | with_reducible exact Lead.newVar _ _
      | with_reducible exact Lead.elemOf h _
      | with_reducible exact Lead.part h _ _ _
      | with_reducible exact Lead.asIntOf _
      | with_reducible exact Lead.asInt _
      | with_reducible exact Lead.asBool _
      | with_reducible exact Lead.asString _
      | with_reducible exact Lead.asAgg _
      | with_reducible exact Lead.asAddr h _
      | with_reducible exact Lead.sureAddr _
      | with_reducible exact Lead.load _ _
      | with_reducible exact Lead.store _ _ _
      | with_reducible exact Lead.choose _
      | with_reducible exact Lead.frozen _
      | with_reducible exact Lead.askRoom _
      | with_reducible exact Lead.typeStr h _
      | with_reducible exact Lead.loadAt h _ _
      | with_reducible exact Lead.storeAt h _ _ _
      | with_reducible exact Lead.alloc h _ _ _
      | with_reducible exact Lead.box h _ _
      | with_reducible exact Lead.field h _ _ _
      | with_reducible exact Lead.index h _ _ _
      | with_reducible exact Lead.indexAt h _ _ _
      | with_reducible exact Lead.sliceBound h _ _ _
      | with_reducible exact Lead.sliceBounds h _ _ _ _ _ _
      | with_reducible exact Lead.slice h _ _ _ _ _
      | with_reducible exact Lead.sliceAt h _ _ _ _ _
      | with_reducible exact Lead.arrayAt h _ _
      | with_reducible exact Lead.makeInterface h _ _
      | with_reducible exact Lead.makeFunc h _ _ _
      | with_reducible exact Lead.extract h _ _
      | with_reducible exact Lead.buildSlice h _ _ _
      | with_reducible exact Lead.makeSlice h _ _ _
      | with_reducible exact Lead.intArith h _ _ _ _
      | with_reducible exact Lead.intDiv h _ _ _ _
      | with_reducible exact Lead.intBits h _ _ _ _
      | with_reducible exact Lead.shift h _ _ _ _ _
      | with_reducible exact Lead.intCmp h _ _ _
      | with_reducible exact Lead.stringOp h _ _ _
      | with_reducible exact Lead.unary h _ _
      | with_reducible exact Lead.len_ h _ _ _
      | with_reducible exact Lead.cap_ h _ _ _
      | with_reducible exact Lead.lenOf h _
      | with_reducible exact Lead.firstCells h _ _ _
      | with_reducible exact Lead.copy_ h _ _ _
      | with_reducible exact Lead.checkKey h _ _ _ _
      | with_reducible exact Lead.bytesToString h _
      | with_reducible exact Lead.behindNumber _
      | with_reducible exact Lead.sameAddr _ _
      | with_reducible exact Lead.samePointer _ _
      | with_reducible exact Lead.noView _
      | with_reducible exact Lead.viewAt _
      | with_reducible exact Lead.numberAt _
      | with_reducible exact Lead.equalIn h _ _ _ _
      | with_reducible exact Lead.eqGuardIn h _ _ _ _
      | with_reducible exact Lead.equal h _ _ _
      | with_reducible exact Lead.eqGuard h _ _ _ _ _ _
      | with_reducible exact Lead.floatArith h _ _ _ _
      | with_reducible exact Lead.floatCmp h _ _ _ _
      | with_reducible exact Lead.floatToFloat h _ _ _
      | with_reducible exact Lead.floatToInt h _ _ _
      | with_reducible exact Lead.cArith h _ _ _ _
      | with_reducible exact Lead.cCmp h _ _ _ _
      | with_reducible exact Lead.cConv h _ _ _
      | with_reducible exact Lead.cadd h _ _
      | with_reducible exact Lead.csub h _ _
      | with_reducible exact Lead.cmul h _ _
      | with_reducible exact Lead.cquo h _ _
      | with_reducible exact Lead.cProduct h _ _ _ _
      | with_reducible exact Lead.cCorrected h _ _ _ _ _
      | with_reducible exact Lead.cQuotient h _ _ _ _
      | with_reducible exact Lead.complexOp h _ _ _ _ _ _
      | with_reducible exact Lead.complexToComplex h _ _ _ _
      | with_reducible exact Lead.max2 h _ _
      | with_reducible exact Lead.min2 h _ _
      | with_reducible exact Lead.max_ h _ _ _
      | with_reducible exact Lead.min_ h _ _ _
      | with_reducible exact Lead.clear_ h _ _ _
      | with_reducible exact Lead.stringToRunes h _ _
      | with_reducible exact Lead.runesToString h _
      | with_reducible exact Lead.findAsking h _ _ _ _
      | with_reducible exact Lead.findKey h _ _ _
      | with_reducible exact Lead.lookup h _ _ _ _
      | with_reducible exact Lead.keyThatStays h _ _
      | with_reducible exact Lead.mapUpdate h _ _ _ _
      | with_reducible exact Lead.mapEntry h _ _ _
      | with_reducible exact Lead.entryStore h _ _ _ _
      | with_reducible exact Lead.makeMap h _ _
      | with_reducible exact Lead.makeChan h _ _
      | with_reducible exact Lead.range h _ _
      | with_reducible exact Lead.next h _ _
      | with_reducible exact Lead.entry h _
      | with_reducible exact Lead.delete_ h _ _ _
      | with_reducible exact Lead.typeAssert h _ _ _ _
      | with_reducible exact Lead.fieldPlace h _ _
      | with_reducible exact Lead.fieldAt h _ _ _
      | with_reducible exact Lead.placeGet h _ _
      | with_reducible exact Lead.follow h _ _ _
      | with_reducible exact Lead.binOp h _ _ _ _
      | with_reducible exact Lead.movedNumber h _ _ _
      | with_reducible exact Lead.ssaW h _ _ _ _ _
      | with_reducible exact Lead.receiverAt h _ _ _ _
      | with_reducible exact Lead.receiverVia h _ _ _ _
      | with_reducible apply ih
      | with_reducible refine Lead.bind ?_ (fun _ => ?_)
      | with_reducible refine Lead.map ?_
      | with_reducible refine Lead.iteH (fun _ => ?_) (fun _ => ?_)
      | split
      | dsimp only

theorem Lead.build (h : Tab V) (t : TypeId) (ps : Array (Nat × Value)) : Lead V (Instr.build t ps) := by
    unfold Instr.build
    repeat' first
      | exact Lead.setObj _ _ rfl (by simp [Env.add])
      | exact Lead.newObj _ rfl
      | (with_reducible refine Lead.newObj _ ?_; split <;> rfl)
      | (with_reducible refine Lead.program ?eq_ ?_; (case eq_ => simp only [tables_holdsPacked h.tables, tables_stoodInHeld h.tables, tables_depth h.tables, tables_globals h.tables, tables_eqGuard h.tables, tables_info h.tables]))
      | (refine Lead.byteOfG h _ ?_; simp_all; done)
      | (refine Lead.byteOfG h _ ?_; simp_all; omega)
      | (with_reducible refine Lead.getObjH h _ ?gk_ (.inr ?gd_) (fun _ _ h => ?_); (case gk_ => intros; rfl); (case gd_ => intro w_; refine ⟨_, _, rfl, ?_⟩; simp [Soft]))
      | (with_reducible refine Lead.forInArray _ ?_ _ _; intro _ _)
      | (with_reducible refine Lead.forInRange _ ?_ _ _; intro _ _)
      | (with_reducible refine Lead.forInList _ ?_ _ _; intro _ _)
      | (with_reducible refine Lead.mapArray _ ?_ _; intro _)
      | (with_reducible refine Lead.foldlM _ ?_ _ _; intro _ _)
      | with_reducible assumption
      | with_reducible exact Lead.pure _
      | with_reducible exact Lead.stuck _
      | with_reducible exact Lead.unsupported _
      | with_reducible exact Lead.goPanic _

      | with_reducible exact Lead.runtimePanic h _
      | with_reducible exact Lead.boundsPanic h _ _ _ _
      | with_reducible exact Lead.underlying h _
      | with_reducible exact Lead.typeInfo h _
      | with_reducible exact Lead.zeroValue h _
      | with_reducible exact Lead.sizeOf h _
      | with_reducible exact Lead.isAgg h _
      | with_reducible exact Lead.loadCells _ _
      | with_reducible exact Lead.storeCells _ _ _
      | with_reducible exact Lead.loadVar h _ _
      | with_reducible exact Lead.storeVar h _ _ _
      | with_reducible exact Lead.newRow _ _
      | with_reducible exact Lead.newVar _ _
      | with_reducible exact Lead.elemOf h _
      | with_reducible exact Lead.part h _ _ _
      | with_reducible exact Lead.asIntOf _
      | with_reducible exact Lead.asInt _
      | with_reducible exact Lead.asBool _
      | with_reducible exact Lead.asString _
      | with_reducible exact Lead.asAgg _
      | with_reducible exact Lead.asAddr h _
      | with_reducible exact Lead.sureAddr _
      | with_reducible exact Lead.load _ _
      | with_reducible exact Lead.store _ _ _
      | with_reducible exact Lead.choose _
      | with_reducible exact Lead.frozen _
      | with_reducible exact Lead.askRoom _
      | with_reducible exact Lead.typeStr h _
      | with_reducible exact Lead.loadAt h _ _
      | with_reducible exact Lead.storeAt h _ _ _
      | with_reducible exact Lead.alloc h _ _ _
      | with_reducible exact Lead.box h _ _
      | with_reducible exact Lead.field h _ _ _
      | with_reducible exact Lead.index h _ _ _
      | with_reducible exact Lead.indexAt h _ _ _
      | with_reducible exact Lead.sliceBound h _ _ _
      | with_reducible exact Lead.sliceBounds h _ _ _ _ _ _
      | with_reducible exact Lead.slice h _ _ _ _ _
      | with_reducible exact Lead.sliceAt h _ _ _ _ _
      | with_reducible exact Lead.arrayAt h _ _
      | with_reducible exact Lead.makeInterface h _ _
      | with_reducible exact Lead.makeFunc h _ _ _
      | with_reducible exact Lead.extract h _ _
      | with_reducible exact Lead.buildSlice h _ _ _
      | with_reducible exact Lead.makeSlice h _ _ _
      | with_reducible exact Lead.intArith h _ _ _ _
      | with_reducible exact Lead.intDiv h _ _ _ _
      | with_reducible exact Lead.intBits h _ _ _ _
      | with_reducible exact Lead.shift h _ _ _ _ _
      | with_reducible exact Lead.intCmp h _ _ _
      | with_reducible exact Lead.stringOp h _ _ _
      | with_reducible exact Lead.unary h _ _
      | with_reducible exact Lead.len_ h _ _ _
      | with_reducible exact Lead.cap_ h _ _ _
      | with_reducible exact Lead.lenOf h _
      | with_reducible exact Lead.firstCells h _ _ _
      | with_reducible exact Lead.copy_ h _ _ _
      | with_reducible exact Lead.checkKey h _ _ _ _
      | with_reducible exact Lead.bytesToString h _
      | with_reducible exact Lead.behindNumber _
      | with_reducible exact Lead.sameAddr _ _
      | with_reducible exact Lead.samePointer _ _
      | with_reducible exact Lead.noView _
      | with_reducible exact Lead.viewAt _
      | with_reducible exact Lead.numberAt _
      | with_reducible exact Lead.equalIn h _ _ _ _
      | with_reducible exact Lead.eqGuardIn h _ _ _ _
      | with_reducible exact Lead.equal h _ _ _
      | with_reducible exact Lead.eqGuard h _ _ _ _ _ _
      | with_reducible exact Lead.floatArith h _ _ _ _
      | with_reducible exact Lead.floatCmp h _ _ _ _
      | with_reducible exact Lead.floatToFloat h _ _ _
      | with_reducible exact Lead.floatToInt h _ _ _
      | with_reducible exact Lead.cArith h _ _ _ _
      | with_reducible exact Lead.cCmp h _ _ _ _
      | with_reducible exact Lead.cConv h _ _ _
      | with_reducible exact Lead.cadd h _ _
      | with_reducible exact Lead.csub h _ _
      | with_reducible exact Lead.cmul h _ _
      | with_reducible exact Lead.cquo h _ _
      | with_reducible exact Lead.cProduct h _ _ _ _
      | with_reducible exact Lead.cCorrected h _ _ _ _ _
      | with_reducible exact Lead.cQuotient h _ _ _ _
      | with_reducible exact Lead.complexOp h _ _ _ _ _ _
      | with_reducible exact Lead.complexToComplex h _ _ _ _
      | with_reducible exact Lead.max2 h _ _
      | with_reducible exact Lead.min2 h _ _
      | with_reducible exact Lead.max_ h _ _ _
      | with_reducible exact Lead.min_ h _ _ _
      | with_reducible exact Lead.clear_ h _ _ _
      | with_reducible exact Lead.stringToRunes h _ _
      | with_reducible exact Lead.runesToString h _
      | with_reducible exact Lead.findAsking h _ _ _ _
      | with_reducible exact Lead.findKey h _ _ _
      | with_reducible exact Lead.lookup h _ _ _ _
      | with_reducible exact Lead.keyThatStays h _ _
      | with_reducible exact Lead.mapUpdate h _ _ _ _
      | with_reducible exact Lead.mapEntry h _ _ _
      | with_reducible exact Lead.entryStore h _ _ _ _
      | with_reducible exact Lead.makeMap h _ _
      | with_reducible exact Lead.makeChan h _ _
      | with_reducible exact Lead.range h _ _
      | with_reducible exact Lead.next h _ _
      | with_reducible exact Lead.entry h _
      | with_reducible exact Lead.delete_ h _ _ _
      | with_reducible exact Lead.typeAssert h _ _ _ _
      | with_reducible exact Lead.fieldPlace h _ _
      | with_reducible exact Lead.fieldAt h _ _ _
      | with_reducible exact Lead.placeGet h _ _
      | with_reducible exact Lead.follow h _ _ _
      | with_reducible exact Lead.binOp h _ _ _ _
      | with_reducible exact Lead.movedNumber h _ _ _
      | with_reducible exact Lead.ssaW h _ _ _ _ _
      | with_reducible exact Lead.receiverAt h _ _ _ _
      | with_reducible exact Lead.receiverVia h _ _ _ _
      | with_reducible exact Lead.method h _ _ _ _
      | with_reducible refine Lead.bind ?_ (fun _ => ?_)
      | with_reducible refine Lead.map ?_
      | with_reducible refine Lead.iteH (fun _ => ?_) (fun _ => ?_)
      | split
      | dsimp only

end
end Go.Proofs.YtnknfolnbhljfaaDoor.Lift
end

section
/- A whole operation, walked alike: conversions, 'append', calls. -/
namespace Go.Proofs.YtnknfolnbhljfaaDoor.Lift
open Go Go.Conc
set_option linter.unusedSimpArgs false
set_option linter.unusedVariables false
section
variable {V : Env}
theorem Lead.underlyingK {β : Type} {k : TypeDesc → Sem β} (h : Tab V) (t : TypeId) (hk : ∀ d, V.re.underlying t = some d → Lead V (k d)) : Lead V (Go.underlying t >>= k) := by
  unfold Go.underlying
  show Lead V (Sem.bind (Sem.bind Go.program _) k)
  rw [Sem.bind_assoc']
  refine Lead.program (f := fun p => Sem.bind (match p.underlying t with | some d => Pure.pure d | none => Go.stuck "no such type") k) (by simp only [tables_under h.tables]) ?_
  cases hu : V.re.underlying t with
  | none => exact Lead.soft _
  | some d => exact hk d hu
theorem modify_push {α : Type} (xs : Array α) (x : α) (f : α → α) : (xs.push x).modify xs.size f = xs.push (f x) := by
  apply Array.ext
  · simp
  · intro i h1 h2
    simp only [Array.getElem_modify, Array.getElem_push]
    simp only [Array.size_modify, Array.size_push] at h1
    by_cases hi : i < xs.size
    · simp [hi, Nat.ne_of_gt hi]
    · have : i = xs.size := by omega
      subst this
      simp
theorem Lead.newMarked (e : TypeId) (cs : Array Value) : Lead V (Go.newRow e cs >>= fun a => Go.markStringish a >>= fun _ => (Pure.pure a : Sem Addr)) := by
  intro Bad w1 w2 m es2 hB hS hT
  have run : ∀ (Q : Program) (w : World) (es : Array Event), (Go.newRow e cs >>= fun a => Go.markStringish a >>= fun _ => (Pure.pure a : Sem Addr)).runT Q w es = (.ok ⟨w.heap.size, 0, none⟩ { w with heap := w.heap.push (.cells cs e (cs.size, cs.size + 1)) }, es) := by
    intro Q w es
    show (Sem.bind (Go.newRow e cs) _).runT Q w es = _
    have h1 : (Go.newRow e cs).runT Q w es = (.ok ⟨w.heap.size, 0, none⟩ { w with heap := w.heap.push (.cells cs e (0, 0)) }, es) := by
      unfold Go.newRow
      show (Sem.bind (Go.newObj _) _).runT Q w es = _
      rw [Sem.runT_bind' Q (Go.newObj _) _ w es]
      simp [Go.newObj, Sem.runT, Pure.pure, -Sem.runT_eq]
    rw [Sem.runT_bind' Q (Go.newRow e cs) _ w es, h1]
    dsimp only
    show (Sem.bind (Go.markStringish _) _).runT Q _ es = _
    have h2 : (Go.markStringish ⟨w.heap.size, 0, none⟩).runT Q { w with heap := w.heap.push (.cells cs e (0, 0)) } es = (.ok () { w with heap := w.heap.push (.cells cs e (cs.size, cs.size + 1)) }, es) := by
      unfold Go.markStringish
      show (Sem.bind (Go.shape w.heap.size) _).runT Q _ es = _
      rw [Sem.runT_bind' Q (Go.shape w.heap.size) _ _ es]
      have hsh : ({ w with heap := w.heap.push (.cells cs e (0, 0)) } : World).shape? w.heap.size = some (e, cs.size) := by
        unfold World.shape?
        simp
      simp only [Go.shape, Sem.runT, hsh]
      show (Go.freeze _ 1).runT Q _ es = _
      simp only [Go.freeze, Sem.runT, World.freeze]
      simp [modify_push, -Sem.runT_eq]
    rw [Sem.runT_bind' Q (Go.markStringish _) _ _ es, h2]
    rfl
  rw [← Sem.runT_fst V.sh _ w1 #[], run, run]
  intro _
  exact ⟨_, #[], by simp [hS.size], hS.push _ rfl, by show w2.drawn + w1.drawn = w2.drawn + w1.drawn; rfl, rfl, by simp⟩
theorem Lead.stringToBytes (e : TypeId) (s : ByteArray) : Lead V (Conv.stringToBytes e s) := by
  unfold Conv.stringToBytes
  refine Lead.bind (Lead.choose _) fun cap => ?_
  dsimp only
  have h := Lead.bind (Lead.newMarked (V := V) e ((s.data.map fun b => Value.int .u8 b.toNat) ++ Array.replicate (cap - s.size) (.int .u8 0))) (fun a => Lead.pure (V := V) (Value.slice (some a) s.size cap))
  have e0 : ∀ (x : Sem Addr) (y : Addr → Sem Unit) (f : Addr → Sem Value), ((x >>= fun a => y a >>= fun _ => (Pure.pure a : Sem Addr)) >>= f) = (x >>= fun a => y a >>= fun _ => f a) := by
    intro x y f
    show Sem.bind (Sem.bind x _) f = Sem.bind x _
    rw [Sem.bind_assoc']
    congr 1
    funext a
    show Sem.bind (Sem.bind (y a) _) f = Sem.bind (y a) _
    rw [Sem.bind_assoc']
    rfl
  rw [e0] at h
  exact h
/-- What a conversion must not be: of one slice type to itself; through unsafe.Pointer. -/
def convOk (P : Program) (src dst : TypeId) : Bool :=
  match P.underlying src, P.underlying dst with
  | some .unsafePointer, _ | _, some .unsafePointer => false
  | some (.slice _), some (.slice _) => false
  | _, _ => true
theorem Lead.intToInt (k : IntKind) (n : Int) : Lead V (Conv.intToInt k n) := by unfold Conv.intToInt; exact Lead.pure _
theorem Lead.intToFloat (k : FloatKind) (n : Int) : Lead V (Conv.intToFloat k n) := by unfold Conv.intToFloat; exact Lead.pure _
theorem Lead.intToString (n : Int) : Lead V (Conv.intToString n) := by unfold Conv.intToString; exact Lead.pure _
theorem Lead.convert (h : Tab V) (src dst : TypeId) (x : Value) (hc : convOk V.re src dst = true) : Lead V (Go.convert src dst x) := by
  unfold Go.convert
  refine Lead.underlyingK h _ fun d hd => Lead.underlyingK h _ fun d' hd' => ?_
  unfold convOk at hc
  rw [hd, hd'] at hc
  clear hd hd'
  split
  all_goals first
    | with_reducible exact Lead.intToInt _ _
    | with_reducible exact Lead.intToFloat _ _
    | with_reducible exact Lead.floatToInt h _ _ _
    | with_reducible exact Lead.floatToFloat h _ _ _
    | with_reducible exact Lead.complexToComplex h _ _ _ _
    | with_reducible exact Lead.intToString _
    | with_reducible exact Lead.pure _
    | with_reducible exact Lead.unsupported _
    | with_reducible exact Lead.stuck _
    | (simp at hc; done)
    | (exfalso; cases d <;> simp_all; done)
    | (refine Lead.bind (Lead.underlying h _) fun e => ?_; split <;> first | with_reducible exact Lead.stringToBytes _ _ | with_reducible exact Lead.stringToRunes h _ _ | with_reducible exact Lead.bytesToString h _ | with_reducible exact Lead.runesToString h _ | with_reducible exact Lead.stuck _)
theorem mayShare_run (Q : Program) (w : World) (es : Array Event) (a b n : Nat) (base : Option Addr) (x : Value) : ∃ r, (Builtin.mayShare a b n base x).runT Q w es = (.ok r w, es) := by
  have hc : ∀ (a : Addr) (c : Nat) (es : Array Event), ∃ r, (Builtin.holdsCells a c).runT Q w es = (.ok r w, es) := by
    intro a c es
    unfold Builtin.holdsCells
    show ∃ r, (Sem.bind (Go.shape a.block) _).runT Q w es = _
    rw [Sem.runT_bind' Q (Go.shape a.block) _ w es]
    simp only [Go.shape, Sem.runT]
    cases w.shape? a.block <;> exact ⟨_, rfl⟩
  have tail : ∀ es : Array Event, ∃ r, ((match x with
      | .slice (some b) _ _ => do Pure.pure (!(← Builtin.holdsCells b (n * a)) || base.any (·.block == b.block))
      | _ => Pure.pure false : Sem Bool)).runT Q w es = (.ok r w, es) := by
    intro es
    split
    · rename_i b _ _
      obtain ⟨r, hr⟩ := hc b (n * a) es
      show ∃ r, (Sem.bind (Builtin.holdsCells b (n * a)) _).runT Q w es = _
      rw [Sem.runT_bind' Q (Builtin.holdsCells b (n * a)) _ w es, hr]
      exact ⟨_, rfl⟩
    · exact ⟨_, rfl⟩
  unfold Builtin.mayShare
  cases base with
  | none =>
    obtain ⟨r, hr⟩ := tail es
    exact ⟨r, hr⟩
  | some p =>
    obtain ⟨r, hr⟩ := hc p (b * a) es
    show ∃ r, (Sem.bind (Builtin.holdsCells p (b * a)) fun h => Sem.bind (Go.frozen (p.add (b / 2 * a))) fun z => (if (!(h && !z)) = true then Pure.pure true else (match x with
      | .slice (some b) _ _ => do Pure.pure (!(← Builtin.holdsCells b (n * a)) || (some p).any (·.block == b.block))
      | _ => Pure.pure false) : Sem Bool)).runT Q w es = _
    rw [Sem.runT_bind' Q (Builtin.holdsCells p (b * a)) _ w es, hr]
    dsimp only
    rw [Sem.runT_bind' Q (Go.frozen _) _ w es]
    simp only [Go.frozen, Sem.runT]
    obtain ⟨r2, hr2⟩ := tail es
    cases hz : (!(r && !w.frozen? (p.add (b / 2 * a))))
    · exact ⟨r2, hr2⟩
    · exact ⟨true, rfl⟩
theorem Lead.noRoom {α : Type} (a b n : Nat) (base : Option Addr) (x : Value) (u : Unsupported) (hu : isInit u = false := by with_unfolding_all rfl) : Lead V ((Builtin.mayShare a b n base x >>= fun s => if (!s) = true then (Go.mark .noRoom >>= fun _ => Go.unsupported u) else Go.unsupported u) : Sem α) := by
  refine Lead.dead fun w => ?_
  obtain ⟨r, hr⟩ := mayShare_run V.sh w #[] a b n base x
  refine ⟨.unsupported u, w, ?_, by intro hs; cases u <;> first | exact hs | cases hu⟩
  show (Sem.bind (Builtin.mayShare a b n base x) _).run V.sh w = _
  have hr' : (Builtin.mayShare a b n base x).run V.sh w = .ok r w := by rw [← Sem.runT_fst V.sh _ w #[], hr]
  rw [Sem.run_bind' V.sh (Builtin.mayShare a b n base x) _ w, hr']
  cases r <;> rfl
theorem Lead.sysEnv : Lead V (Go.sys .env) := by
  intro Bad w1 w2 m es2 hB hS hT
  have h0 : ∀ w : World, w.sys .env = (.strings w.os.env, w) := fun w => rfl
  unfold Go.sys
  simp only [Sem.run, h0]
  intro _
  refine ⟨w2, #[⟨.output, true, false⟩], by simp [Sem.runT, h0, hS.os, -Sem.runT_eq], hS, by omega, rfl, ?_⟩
  intro e he
  obtain rfl : e = ⟨.output, true, false⟩ := by simpa using he
  refine ⟨fun x hx hs => ?_, by simp, by simp, trivial⟩
  simp [MemAct.ofEvent, MemAct.touch?] at hx
  rw [← hx] at hs
  exact hs.elim
theorem Lead.panic (h : Tab V) (x : Value) : Lead V (Instr.panic x) := by
  unfold Instr.panic
  split
  · exact Lead.goPanic _
  · refine Lead.bind ?_ fun n => Lead.ite (Lead.goPanic _) (Lead.runtimePanic h _)
    unfold Instr.panicnil
    refine Lead.bind Lead.sysEnv fun s => ?_
    split
    · dsimp only
      exact Lead.program (by rw [h.tables]) (Lead.pure _)
    · exact Lead.stuck _
  · exact Lead.stuck _
end
end Go.Proofs.YtnknfolnbhljfaaDoor.Lift
end

section
/- 'append', calls, and the step of one operation, walked alike. -/
namespace Go.Proofs.YtnknfolnbhljfaaDoor.Lift
open Go Go.Conc
set_option linter.unusedSimpArgs false
set_option linter.unusedVariables false
section
variable {V : Env}
theorem Lead.noRoom' {α : Type} {q : Sem α} (a b n : Nat) (base : Option Addr) (x : Value) (u : Unsupported) (hu : isInit u = false := by with_unfolding_all rfl) : Lead V (do
      if !(← Builtin.mayShare a b n base x) then Go.mark .noRoom
      Go.unsupported u : Sem α) := by
  refine Lead.dead fun w => ?_
  obtain ⟨r, hr⟩ := mayShare_run V.sh w #[] a b n base x
  refine ⟨.unsupported u, w, ?_, by intro hs; cases u <;> first | exact hs | cases hu⟩
  show (Sem.bind (Builtin.mayShare a b n base x) _).run V.sh w = _
  have hr' : (Builtin.mayShare a b n base x).run V.sh w = .ok r w := by rw [← Sem.runT_fst V.sh _ w #[], hr]
  rw [Sem.run_bind' V.sh (Builtin.mayShare a b n base x) _ w, hr']
  cases r <;> rfl
theorem Lead.append_ (h : Tab V) (a : Array TypeId) (t : TypeId) (x : Array Value) : Lead V (Builtin.append_ a t x) := by
  unfold Builtin.append_
  repeat' first
      | with_reducible exact Lead.pure _
      | with_reducible exact Lead.stuck _
      | with_reducible exact Lead.unsupported _
      | with_reducible exact Lead.runtimePanic h _
      | with_reducible exact Lead.underlying h _
      | with_reducible exact Lead.typeInfo h _
      | with_reducible exact Lead.zeroValue h _
      | with_reducible exact Lead.sizeOf h _
      | with_reducible exact Lead.asInt _
      | with_reducible exact Lead.choose _
      | with_reducible exact Lead.askRoom _
      | with_reducible exact Lead.storeCells _ _ _
      | with_reducible exact Lead.newRow _ _
      | with_reducible exact Lead.lenOf h _
      | with_reducible exact Lead.firstCells h _ _ _
      | with_reducible exact Lead.noRoom' _ _ _ _ _ _
      | with_reducible exact Lead.noRoom _ _ _ _ _ _
      | with_reducible refine Lead.bind ?_ (fun _ => ?_)
      | with_reducible refine Lead.map ?_
      | with_reducible refine Lead.iteH (fun _ => ?_) (fun _ => ?_)
      | split
      | dsimp only
end
end Go.Proofs.YtnknfolnbhljfaaDoor.Lift
end

section
/- FuncsOk, and the step of one operation, walked alike. -/
namespace Go.Proofs.YtnknfolnbhljfaaDoor.Lift
open Go Go.Conc
set_option linter.unusedSimpArgs false
set_option linter.unusedVariables false
section
variable {V : Env}
theorem Lead.add {α : Type} {s : Sem α} (r : Nat) (h : Lead V s) : Lead (V.add r) s := by
  intro Bad w1 w2 m es2 hB hS hT
  have h1 := h Bad w1 w2 m es2 (fun i hi => hB i (.inl hi)) hS.strip hT
  show Leads (V.add r) Bad m w1 w2 es2 (s.run V.sh w1) (s.runT V.re w2 es2)
  cases hr : s.run V.sh w1 with
  | ok a v1 =>
    rw [hr] at h1
    intro hm
    obtain ⟨v2, n, e1, o1⟩ := h1 hm
    exact ⟨v2, n, e1, o1.sh.add, o1.dr, o1.t2, o1.evs⟩
  | halt a v1 =>
    rw [hr] at h1
    intro hh hm
    obtain ⟨rd, v2, n, e1, o1⟩ := h1 hh hm
    exact ⟨rd, v2, n, e1, o1.sh.add, o1.dr, o1.t2, o1.evs⟩
/-- A built-in function that is walked alike. -/
def builtinOk : Builtin → Bool
  | .close | .complex | .real | .imag | .print | .println | .unsafeSlice | .unsafeString | .unsafeStringData => false
  | _ => true
/-- What is called at last: no built-in function that is barred. -/
def targetOk : Target → Bool
  | .builtin b _ _ _ => builtinOk b
  | .coroexit _ | .collected _ => false
  | _ => true
/-- What an operation of ours may answer. -/
def NextOk (V : Env) : Next → Prop
  | .value _ | .skip | .recover => True
  | .enter f _ => (V.sh.funcs[f]?).isSome = true
  | .defer d => targetOk d.target = true
  | _ => False
def Calm (w : World) : Prop := ∀ (i : Nat) (o : Obj), w.heap[i]? = some o → Obj.calm o = true
/-- Walked alike, and answers only what an operation of ours may. -/
structure Plays (V : Env) (s : Sem Next) : Prop where
  lead : Lead V s
  only : V.sh.toTables = V.re.toTables → ∀ w n w', Calm w → s.run V.sh w = .ok n w' → NextOk V n
theorem Lead.calm {α : Type} {s : Sem α} (h : Lead V s) (ht : V.sh.toTables = V.re.toTables) {w v : World} {a : α} (hc : Calm w) (hr : s.run V.sh w = .ok a v) : Calm v := by
  have h1 := h (fun _ => False) w w v.drawn #[] (fun _ _ => id) ⟨ht, rfl, fun _ _ => .inl rfl, fun _ hi => hi.elim, fun _ hi => hi.elim, rfl, rfl, hc, fun _ => rfl, fun _ _ _ => rfl, fun _ _ hi => hi.elim⟩ (fun _ _ => rfl)
  rw [hr] at h1
  obtain ⟨v2, n, _, o⟩ := h1 (by omega)
  exact o.sh.calm
theorem Plays.pure {n : Next} (h : NextOk V n) : Plays V (Pure.pure n) := ⟨Lead.pure _, fun _ w n' w' _ e => by
  simp only [Pure.pure, Sem.run] at e
  cases e
  exact h⟩
theorem Plays.soft (h : Halt) (hr : Ready h := by trivial) : Plays V (.halt h) := ⟨Lead.soft _ hr, fun _ w n' w' _ e => by simp only [Sem.run] at e; cases e⟩
theorem Plays.bind {α : Type} {x : Sem α} {f : α → Sem Next} (hx : Lead V x) (hf : ∀ a, Plays V (f a)) : Plays V (x >>= f) :=
  ⟨Lead.bind hx fun a => (hf a).lead, fun ht w n w' hc e => by
    have e' : (Sem.bind x f).run V.sh w = .ok n w' := e
    rw [Sem.run_bind' V.sh x f w] at e'
    cases hr : x.run V.sh w with
    | ok a v =>
      rw [hr] at e'
      exact (hf a).only ht v n w' (hx.calm ht hc hr) e'
    | halt a v =>
      rw [hr] at e'
      cases e'⟩
theorem Plays.program {f : Program → Sem Next} (h : f V.sh = f V.re) (hf : Plays V (f V.re)) : Plays V (Go.program >>= f) :=
  ⟨Lead.program h hf.lead, fun ht w n w' hc e => by
    have e' : (Sem.bind Go.program f).run V.sh w = .ok n w' := e
    rw [Sem.run_bind' V.sh Go.program f w] at e'
    simp only [Go.program, Sem.run, Result.andThen] at e'
    rw [h] at e'
    exact hf.only ht w n w' hc e'⟩
theorem Plays.ite {c : Prop} [Decidable c] {x y : Sem Next} (hx : Plays V x) (hy : Plays V y) : Plays V (if c then x else y) := by split <;> assumption
theorem Plays.value {s : Sem Value} (h : Lead V s) : Plays V (do Pure.pure (Next.value (← s)) : Sem Next) := Plays.bind h fun _ => Plays.pure (n := _) (by exact trivial)
theorem Plays.unit {s : Sem Unit} (h : Lead V s) : Plays V (do s; Pure.pure Next.skip : Sem Next) := Plays.bind h fun _ => Plays.pure (n := _) (by exact trivial)
theorem Plays.panic (h : Tab V) (e : RuntimeError) : Plays V (Go.runtimePanic e) := ⟨Lead.runtimePanic h e, by
  have only : ∀ {α : Type} (x : Sem α) (f : α → Sem Next), (∀ a w n w', (f a).run V.sh w ≠ .ok n w') → ∀ w n w', (x >>= f).run V.sh w ≠ .ok n w' := by
    intro α x f hf w n w' e
    have e' : (Sem.bind x f).run V.sh w = .ok n w' := e
    rw [Sem.run_bind' V.sh x f w] at e'
    cases hr : x.run V.sh w with
    | ok a v =>
      rw [hr] at e'
      exact hf a v n w' e'
    | halt a v =>
      rw [hr] at e'
      cases e'
  have g0 : ∀ v w n w', (Go.goPanic v : Sem Next).run V.sh w ≠ .ok n w' := by
    intro v w n w' e
    cases e
  have : ∀ w n w', (Go.runtimePanic e : Sem Next).run V.sh w ≠ .ok n w' := by
    unfold Go.runtimePanic
    refine only _ _ fun p => ?_
    cases e <;> first
      | exact g0 _
      | exact only _ _ fun _ => only _ _ fun _ => g0 _
  exact fun _ w n w' _ e => absurd e (this w n w')⟩
/-- The functions of the two programs: what is called is the same. -/
structure FuncsOk (V : Env) : Prop where
  tab : Tab V
  some : ∀ f : Nat, (V.sh.funcs[f]?).isSome = (V.re.funcs[f]?).isSome
  name : ∀ (f : Nat) a b, V.sh.funcs[f]? = Option.some a → V.re.funcs[f]? = Option.some b → a.body.isSome = true → a.name = b.name ∧ b.body.isSome = true ∧ b.name ≠ "runtime.NumGoroutine"
  num : ∀ (f : Nat) a, V.sh.funcs[f]? = Option.some a → a.body.isSome = false → a.name ≠ "runtime.NumGoroutine" ∧ Extern.findNext a = none
  ext : ∀ (f : Nat) a, V.sh.funcs[f]? = Option.some a → a.body.isSome = false → (V.re.funcs[f]? = Option.some a ∧ ∀ e, Extern.find a = Option.some e → ∀ args, Lead V (e args)) ∨
    (Extern.find a = none ∧ ¬ (a.name.endsWith ".init" && !a.name.startsWith "(" && !a.name.startsWith "gosem.") = true)
theorem FuncsOk.add (h : FuncsOk V) (r : Nat) : FuncsOk (V.add r) := ⟨h.tab.add r, h.some, h.name, h.num, fun f a ha hb => (h.ext f a ha hb).imp (fun x => ⟨x.1, fun e he args => (x.2 e he args).add r⟩) id⟩
theorem Plays.callFunc (h : FuncsOk V) (f : FuncId) (args : Array Value) : Plays V (Go.callFunc f args) := by
  have dead : ∀ {s1 : Sem Next} , (∀ w, ∃ e w', s1.run V.sh w = .halt e w' ∧ ¬ Soft e) → Plays V s1 := fun hs => ⟨Lead.dead hs, fun _ w n w' _ e => by
    obtain ⟨x, y, e1, _⟩ := hs w
    rw [e1] at e
    cases e⟩
  have hsome := h.some f
  cases hs : V.sh.funcs[f]? with
  | none =>
    refine dead fun w => ⟨.stuck "call: no such function", w, ?_, by simp [Soft]⟩
    unfold Go.callFunc
    show (Sem.bind Go.program _).run V.sh w = _
    rw [Sem.run_bind' V.sh Go.program _ w]
    simp only [Go.program, Sem.run, Result.andThen, hs]
    rfl
  | some a =>
    rw [hs] at hsome
    obtain ⟨b, hb⟩ := Option.isSome_iff_exists.1 hsome.symm
    cases hbody : a.body.isSome with
    | true =>
      obtain ⟨n1, n2, n3⟩ := h.name f a b hs hb hbody
      have hbody2 : b.body.isNone = false := by
        cases hx : b.body <;> rw [hx] at n2 <;> first | rfl | cases n2
      have hbody1 : a.body.isNone = false := by
        cases hx : a.body <;> rw [hx] at hbody <;> first | rfl | cases hbody
      unfold Go.callFunc
      refine Plays.program ?_ ?_
      · rw [hs, hb]
        simp only [n1, hbody1, hbody2, Bool.false_eq_true, ↓reduceIte]
      · rw [hb]
        dsimp only
        by_cases hn : (b.name == "runtime.NumGoroutine") = true
        · rw [if_pos hn]
          simp at hn; exact absurd hn n3
        · rw [if_neg hn]
          simp only [hbody2, Bool.false_eq_true, ↓reduceIte]
          exact Plays.pure (show (V.sh.funcs[f]?).isSome = true by rw [hs]; rfl)
    | false =>
      obtain ⟨n1, n2⟩ := h.num f a hs hbody
      have hbody1 : a.body.isNone = true := by
        cases hx : a.body <;> rw [hx] at hbody <;> first | rfl | cases hbody
      have hn1 : (a.name == "runtime.NumGoroutine") = false := by simpa using n1
      rcases h.ext f a hs hbody with ⟨e1, e2⟩ | ⟨e1, e2⟩
      · unfold Go.callFunc
        refine Plays.program ?_ ?_
        · rw [hs, e1]
        · rw [e1]
          dsimp only
          rw [hn1, if_neg (by simp), if_pos hbody1, n2]
          refine Plays.bind (Lead.mark _ (.inl ⟨_, rfl⟩)) fun _ => ?_
          dsimp only
          cases he : Extern.find a with
          | some e => exact Plays.value (e2 e he args)
          | none =>
            dsimp only
            exact Plays.ite (Plays.pure trivial) (Plays.soft _)
      · refine dead fun w => ⟨.unsupported (.extern a.name), w, ?_, by simp [Soft]⟩
        unfold Go.callFunc
        show (Sem.bind Go.program _).run V.sh w = _
        rw [Sem.run_bind' V.sh Go.program _ w]
        simp only [Go.program, Sem.run, Result.andThen, hs]
        rw [hn1, if_neg (by simp), if_pos hbody1, n2]
        show (Sem.bind (Go.mark _) _).run V.sh w = _
        rw [Sem.run_bind' V.sh (Go.mark _) _ w]
        simp only [Go.mark, Sem.run, Result.andThen, e1]
        rw [if_neg e2]
        rfl
theorem Plays.yield (h : Tab V) (l : Nat) (args : Array Value) : Plays V (Instr.yield l args) := by
  have e : Instr.yield l args = (Go.getObj l >>= fun o => (match o with | .loop r => Pure.pure r | _ => Go.stuck "range over a function: no such loop" : Sem Loop) >>= fun r => (do
      if args.size ≠ r.params.size then Go.stuck "yield: the wrong number of arguments"
      Pure.pure (.round l r.fn ((r.params.zip args).foldl (fun tmps (t, a) => tmps.setIfInBounds t a) r.tmps) r.assign r.body) : Sem Next)) := by
    unfold Instr.yield Instr.getLoop
    show Sem.bind (Sem.bind (Go.getObj l) _) _ = _
    rw [Sem.bind_assoc']
    rfl
  rw [e]
  have dead : ∀ (o : Obj) (f : Loop → Sem Next), Obj.calm o = true → ((match o with | .loop r => Pure.pure r | _ => Go.stuck "range over a function: no such loop" : Sem Loop) >>= f) = .halt (.stuck "range over a function: no such loop") := by
    intro o f ho
    cases o <;> first | rfl | cases ho
  refine ⟨Lead.getObjK _ (by intros; rfl) (.inr (by intros; exact ⟨_, _, rfl, by simp [Soft]⟩)) fun o ho => ?_, ?_⟩
  · rw [dead o _ ho]
    exact Lead.soft _
  · intro ht w n w' hc e
    have e' : (Sem.bind (Go.getObj l) _).run V.sh w = .ok n w' := e
    rw [Sem.run_bind' V.sh (Go.getObj l) _ w] at e'
    cases hr : (Go.getObj l).run V.sh w with
    | halt a v =>
      rw [hr] at e'
      cases e'
    | ok o v =>
      rw [hr] at e'
      have ho : Obj.calm o = true := by
        unfold Go.getObj at hr
        simp only [Sem.run] at hr
        split at hr
        · cases hr
        · rename_i o' _ heq
          cases hr
          exact hc _ _ heq
        · cases hr
      simp only [Result.andThen] at e'
      rw [dead o _ ho] at e'
      cases e'
theorem Plays.callMethod (h : FuncsOk V) (recv : Value) (name : String) (args : Array Value) : Plays V (Go.callMethod recv name args) := by
  unfold Go.callMethod
  split
  · refine Plays.program (by rw [h.tab.tables]) ?_
    refine Plays.bind (Lead.method h.tab _ _ _ _) fun r => ?_
    dsimp only
    exact Plays.callFunc h _ _
  · exact Plays.panic h.tab _
  · exact Plays.soft _
end
end Go.Proofs.YtnknfolnbhljfaaDoor.Lift
end

section
/- The step of one operation, walked alike. -/
namespace Go.Proofs.YtnknfolnbhljfaaDoor.Lift
open Go Go.Conc
set_option linter.unusedSimpArgs false
set_option linter.unusedVariables false
section
variable {V : Env}
def callOk (c : Call) : Bool := match c.callee with
  | .builtin b => builtinOk b
  | _ => true
/-- An operation that is walked alike. -/
def opOk (P : Program) (o : Oper) : Bool := match o.op with
  | .ready g | .waits g => decide (g < P.globals.size)
  | .next _ s => !s
  | .convert src dst _ => convOk P src dst
  | .call c | .defer c => callOk c
  | .go _ | .send .. | .recv .. | .select .. => false
  | _ => true
theorem Lead.unsafeSliceData_ (h : Tab V) (a : Array TypeId) (t : TypeId) (x : Array Value) : Lead V (Builtin.unsafeSliceData_ a t x) := by
  obtain ⟨l⟩ := x
  match l with
  | [] => exact Lead.stuck _
  | [v] =>
    cases v <;> first
      | exact Lead.stuck _
      | skip
    rename_i b l c
    cases b with
    | none => exact Lead.pure _
    | some a => exact Lead.ite (Lead.pure _) (Lead.bind (Lead.viewAt _) fun _ => Lead.ite (Lead.pure _) (Lead.bind (Lead.elemOf h _) fun _ => Lead.bind (Lead.newObj _ rfl) fun _ => Lead.pure _))
  | _ :: _ :: _ => exact Lead.stuck _
theorem Lead.waits (h : Tab V) (g : Nat) (hg : g < V.re.globals.size) : Lead V (Instr.waits g) := by
  unfold Instr.waits
  exact Lead.bind (Lead.shapeAt _ (h.ok _ hg)) fun _ => Lead.pure _
theorem Lead.ready (h : Tab V) (g : Nat) (hg : g < V.re.globals.size) : Lead V (Instr.ready g) := by
  unfold Instr.ready
  refine Lead.bind (Lead.shapeAt _ (h.ok _ hg)) fun s => ?_
  split
  · exact Lead.pure _
  · refine Lead.getObjK _ (by intros; rfl) (.inl (h.ok _ hg)) fun o ho => ?_
    cases o <;> first | cases ho; done | exact Lead.stuck _
theorem Plays.builtin (h : Tab V) (b : Builtin) (ha : builtinOk b = true) (ts : Array TypeId) (t : TypeId) (cs : Array Bool) (args : Array Value) : Plays V (Go.builtin b ts t cs args) := by
  unfold Go.builtin
  cases b <;> dsimp only <;> first
    | (cases ha; done)
    | exact Plays.value (Lead.append_ h _ _ _)
    | exact Plays.value (Lead.cap_ h _ _ _)
    | exact Plays.value (Lead.clear_ h _ _ _)
    | exact Plays.value (Lead.copy_ h _ _ _)
    | exact Plays.value (Lead.delete_ h _ _ _)
    | exact Plays.value (Lead.len_ h _ _ _)
    | exact Plays.value (Lead.max_ h _ _ _)
    | exact Plays.value (Lead.min_ h _ _ _)
    | exact Plays.value (Lead.panic h _)
    | exact Plays.pure trivial
    | exact Plays.soft _
    | exact Plays.value (Lead.unsafeAdd_ h _ _ _)
    | exact Plays.value (Lead.unsafeSliceData_ h _ _ _)
    | exact Plays.bind (Lead.typeInfo h _) fun _ => Plays.pure trivial
theorem Plays.invoke (h : FuncsOk V) (t : Target) (ht : targetOk t = true) (args : Array Value) : Plays V (Go.invoke t args) := by
  unfold Go.invoke
  split
  · exact Plays.panic h.tab _
  · exact Plays.builtin h.tab _ ht _ _ _ _
  · exact Plays.callFunc h _ _
  · split
    · exact Plays.callMethod h _ _ _
    · exact Plays.soft _
  · split
    · exact Plays.bind (Lead.underlying h.tab _) fun d => Plays.callMethod h _ _ _
    · exact Plays.soft _
  · split
    · exact Plays.bind (Lead.receiverVia h.tab _ _ _ _) fun _ => Plays.callFunc h _ _
    · exact Plays.soft _
  · exact Plays.yield h.tab _ _
  · cases ht
  · cases ht
/-- The call is made out, and then done with. -/
theorem Plays.resolve {k : Deferred → Sem Next} (ρ : Operand → Value) (c : Call) (hc : callOk c = true) (t : TypeId) (hk : ∀ d, targetOk d.target = true → Plays V (k d)) : Plays V (Go.resolve ρ c t >>= k) := by
  unfold callOk at hc
  unfold Go.resolve
  dsimp only
  split
  · rename_i b hb
    rw [hb] at hc
    exact hk _ hc
  · exact hk _ rfl
  · unfold Deferred.ofValue
    split
    · exact hk _ rfl
    · exact hk _ rfl
    · exact Plays.soft _
theorem Lead.followBlind (h : Tab V) : ∀ (l : List FieldStep) (t : TypeId) (x : Option Value), Lead V (Go.followBlind l t x) := by
  intro l
  induction l with
  | nil => intros; exact Lead.pure _
  | cons s l ih =>
    intro t x
    unfold Go.followBlind
    refine Lead.bind (Lead.underlying h _) fun d => ?_
    split
    · split
      · split
        all_goals first
          | exact Lead.pure _
          | exact Lead.stuck _
          | exact ih _ _
          | exact Lead.bind (Lead.part h _ _ _) fun _ => ih _ _
      · exact Lead.stuck _
    · exact Lead.stuck _
theorem Lead.nilAhead (h : Tab V) : ∀ (n : Nat) (t : TypeId) (v : Value) (name : String), Lead V (Go.nilAhead n t v name) := by
  intro n
  induction n with
  | zero => intros; exact Lead.pure _
  | succ n ih =>
    intro t v name
    unfold Go.nilAhead
    refine Lead.bind (Lead.typeInfo h _) fun i => ?_
    split
    · refine Lead.bind (Lead.followBlind h _ _ _) fun r => ?_
      split
      · exact Lead.pure _
      · split
        all_goals first
          | exact Lead.pure _
          | exact Lead.stuck _
          | exact ih _ _ _
          | skip
        refine Lead.bind (Lead.underlying h _) fun d => ?_
        split <;> exact Lead.pure _
    · exact Lead.stuck _
theorem Plays.execOp (h : FuncsOk V) (ρ : Operand → Value) (o : Oper) (ho : opOk V.re o = true) : Plays V (Go.execOp ρ o) := by
  have ht := h.tab
  unfold opOk at ho
  unfold Go.execOp
  cases hop : o.op <;> rw [hop] at ho <;> dsimp only at ho ⊢
  case move x => exact Plays.pure trivial
  case assign x => exact Plays.pure trivial
  case pick c a b => exact Plays.bind (Lead.asBool _) fun _ => Plays.pure trivial
  case alloc e => exact Plays.value (Lead.alloc ht _ _ _)
  case box e v => exact Plays.value (Lead.box ht _ _)
  case build t p => exact Plays.value (Lead.build ht _ _)
  case buildSlice t l p => exact Plays.value (Lead.buildSlice ht _ _ _)
  case insert t m k x => exact Plays.unit (Lead.mapUpdate ht _ _ _ _)
  case load t a => exact Plays.value (Lead.loadAt ht _ _)
  case store t a x => exact Plays.unit (Lead.storeAt ht _ _ _)
  case ready g => exact Plays.unit (Lead.ready ht _ (of_decide_eq_true ho))
  case waits g => exact Plays.value (Lead.waits ht _ (of_decide_eq_true ho))
  case nilCheck x =>
    split
    · exact Plays.panic ht _
    · exact Plays.panic ht _
    · exact Plays.panic ht _
    · split
      · exact Plays.panic ht _
      · refine Plays.program (by rw [ht.tables]) ?_
        refine Plays.bind (Lead.nilAhead ht _ _ _ _) fun r => ?_
        exact Plays.ite (Plays.soft _) (Plays.pure trivial)
      · exact Plays.pure trivial
    · exact Plays.pure trivial
  case binOp op t x y u => exact Plays.value (Lead.bind (Lead.eqGuard ht _ _ _ _ _ _) fun _ => Lead.binOp ht _ _ _ _)
  case unOp op t x => exact Plays.value (Lead.unary ht _ _)
  case convert a b x => exact Plays.value (Lead.convert ht _ _ _ ho)
  case sliceToArrayPointer a x => exact Plays.value (Lead.arrayAt ht _ _)
  case makeInterface t x => exact Plays.value (Lead.makeInterface ht _ _)
  case makeFunc f a b => exact Plays.value (Lead.makeFunc ht _ _ _)
  case makeMap t r => exact Plays.value (Lead.makeMap ht _ _)
  case makeChan t s => exact Plays.value (Lead.makeChan ht _ _)
  case makeSlice t l c => exact Plays.value (Lead.makeSlice ht _ _ _)
  case slice t x l hi m => exact Plays.value (Lead.sliceAt ht _ _ _ _ _)
  case fieldAddr t x f => exact Plays.value (Lead.fieldAt ht _ _ _)
  case field t x f => exact Plays.value (Lead.field ht _ _ _)
  case indexAddr t x i => exact Plays.value (Lead.indexAt ht _ _ _)
  case index t x i => exact Plays.value (Lead.index ht _ _ _)
  case lookup t x i b => exact Plays.value (Lead.lookup ht _ _ _ _)
  case mapUpdate t m k x => exact Plays.unit (Lead.mapUpdate ht _ _ _ _)
  case mapEntry t m k => exact Plays.value (Lead.mapEntry ht _ _ _)
  case entryStore t m s x => exact Plays.unit (Lead.entryStore ht _ _ _ _)
  case range t x => exact Plays.value (Lead.range ht _ _)
  case next i b =>
    cases b
    · exact Plays.value (Lead.next ht _ _)
    · cases ho
  case entry i => exact Plays.value (Lead.entry ht _)
  case typeAssert x t a b => exact Plays.value (Lead.typeAssert ht _ _ _ _)
  case extract t i => exact Plays.value (Lead.extract ht _ _)
  case call c => exact Plays.resolve _ _ ho _ fun d hd => Plays.invoke h _ hd _
  case defer c => exact Plays.resolve _ _ ho _ fun d hd => Plays.pure hd
  case panic x => exact Plays.value (Lead.panic ht _)
  case go c => cases ho
  case send c x => cases ho
  case recv t c b => cases ho
  case select c b => cases ho
end
end Go.Proofs.YtnknfolnbhljfaaDoor.Lift
end

section
/- One step of a goroutine, walked alike in the shadow and in the true world. -/
namespace Go.Proofs.YtnknfolnbhljfaaDoor.Lift
open Go Go.Conc
set_option linter.unusedSimpArgs false
set_option linter.unusedVariables false
section
variable {V : Env}
/-- A code whose every operation is walked alike. -/
def codeOk (P : Program) : Code → Bool
  | .region _ ops _ => ops.all (opOk P)
  | .seq a b | .cond _ a b => codeOk P a && codeOk P b
  | .block _ a | .loop a | .scope a => codeOk P a
  | .rangeFunc .. => false
  | _ => true
def itemOk (P : Program) : Item → Bool
  | .code c | .inLoop c | .inScope c => codeOk P c
  | .inBlock _ => true
  | .inRegion ops _ => ops.all (opOk P)
  | _ => false
structure FrameOk (V : Env) (fr : Frame) : Prop where
  round : fr.roundOf = none
  kind : fr.kind = .normal ∨ fr.kind = .deferred
  todo : ∀ it ∈ fr.todo, itemOk V.re it = true
  defers : ∀ d ∈ fr.defers, targetOk d.target = true
  fn : V.sh.funcs[fr.fn]? = V.re.funcs[fr.fn]?
  has : (V.sh.funcs[fr.fn]?).isSome = true
structure StepOk (V : Env) : Prop where
  funcs : FuncsOk V
  code : ∀ (f : Nat) fn c, V.sh.funcs[f]? = V.re.funcs[f]? → V.re.funcs[f]? = some fn → fn.body = some c → codeOk V.re c = true
/-- The two goroutines stand alike: in one frame, or at the head of a function whose bodies differ. -/
def Mate (V : Env) (tl1 tl2 : List Frame) (g1 g2 : Goroutine) : Prop :=
  ∃ cs a b, g1 = { frame := a, callers := cs ++ tl1, status := .running, dying := none } ∧ g2 = { frame := b, callers := cs ++ tl2, status := .running, dying := none } ∧ (∀ c ∈ cs, FrameOk V c) ∧
    ((b = a ∧ FrameOk V a) ∨ ∃ f args k, V.sh.funcs[f]? ≠ V.re.funcs[f]? ∧ (k = .normal ∨ k = .deferred) ∧ a = Frame.enter V.sh f args k ∧ b = Frame.enter V.re f args k)
/-- What a step in the shadow hands over to the true world. -/
def Carried (V : Env) (tl1 tl2 : List Frame) (Bad : Nat → Prop) (m : Nat) (w1 w2 : World) (s1 s2 : GStep) : Prop :=
  ∀ g1 w1' es1, s1 = .go g1 w1' es1 → g1.status = .running → g1.dying = none → (∃ cs, g1.callers = cs ++ tl1) → w1'.drawn ≤ w1.drawn + m →
    ∃ g2 w2' es2, s2 = .go g2 w2' es2 ∧ Out V Bad w1 w2 w1' w2' es2 ∧ Mate V tl1 tl2 g1 g2

theorem mem_seen (P : Program) (fn : FuncId) (es : Array Event) : ∀ e ∈ seen P fn es, e ∈ es := by
  intro e he
  unfold seen at he
  obtain ⟨l⟩ := es
  simp only [List.size_toArray, List.foldl_toArray'] at he
  have key : ∀ (l : List Event) (q : Bool) (kept : Array Event), e ∈ (l.foldl (fun (x : Bool × Array Event) e =>
      match x with
      | (q, kept) => match e.loc with
        | .mark (.extern f) => ((P.funcs[f]?).any (·.norace), kept)
        | _ => (q, if (q && !e.sync) = true then kept else kept.push e)) (q, kept)).2 → e ∈ kept ∨ e ∈ l := by
    intro l
    induction l with
    | nil => intro q kept h; exact .inl h
    | cons x l ih =>
      intro q kept h
      rw [List.foldl_cons] at h
      dsimp only at h
      split at h
      · rcases ih _ _ h with h1 | h1
        · exact .inl h1
        · exact .inr (List.mem_cons_of_mem _ h1)
      · rcases ih _ _ h with h1 | h1
        · split at h1
          · exact .inl h1
          · rcases Array.mem_push.1 h1 with h2 | h2
            · exact .inl h2
            · exact .inr (h2 ▸ List.mem_cons_self)
        · exact .inr (List.mem_cons_of_mem _ h1)
  rcases key l _ _ he with h1 | h1
  · simp at h1
  · simpa using h1
theorem Out.seen {Bad : Nat → Prop} {w1 w2 w1' w2' : World} {new : Array Event} (h : Out V Bad w1 w2 w1' w2' new) (P : Program) (fn : FuncId) : Out V Bad w1 w2 w1' w2' (Go.seen P fn new) :=
  ⟨h.sh, h.dr, h.t2, fun e he => h.evs e (mem_seen P fn new e he)⟩
theorem FrameOk.mk' {fr fr' : Frame} (h : FrameOk V fr) (e1 : fr'.roundOf = fr.roundOf) (e2 : fr'.kind = fr.kind) (e3 : fr'.fn = fr.fn) (ht : ∀ it ∈ fr'.todo, itemOk V.re it = true) (hd : ∀ d ∈ fr'.defers, targetOk d.target = true) : FrameOk V fr' :=
  ⟨e1.trans h.round, e2 ▸ h.kind, ht, hd, e3 ▸ h.fn, e3 ▸ h.has⟩
theorem FrameOk.finish {fr : Frame} (h : FrameOk V fr) (v : Value) : FrameOk V (fr.finish v) := by
  have ht := h.todo
  unfold Frame.finish
  split
  · rename_i ops i rest k heq
    rw [heq] at ht
    refine h.mk' rfl rfl rfl ?_ h.defers
    intro it hit
    rcases List.mem_cons.1 hit with rfl | hit
    · exact ht (.inRegion ops (i :: rest)) List.mem_cons_self
    · exact ht it (List.mem_cons_of_mem _ hit)
  · rename_i l k heq
    rw [heq] at ht
    exact absurd (ht _ List.mem_cons_self) (by simp [itemOk])
  · rename_i k heq
    rw [heq] at ht
    exact absurd (ht _ List.mem_cons_self) (by simp [itemOk])
  · rename_i k heq
    rw [heq] at ht
    exact absurd (ht _ List.mem_cons_self) (by simp [itemOk])
  · rename_i k heq
    rw [heq] at ht
    exact absurd (ht _ List.mem_cons_self) (by simp [itemOk])
  · exact h
theorem FrameOk.raise {fr : Frame} (h : FrameOk V fr) (vs : List PanicEntry) : FrameOk V (fr.raise vs) := by
  unfold Frame.raise
  split <;> exact h.mk' rfl rfl rfl h.todo h.defers
theorem FrameOk.moded {fr : Frame} (h : FrameOk V fr) (md : FrameMode) : FrameOk V { fr with mode := md } := h.mk' rfl rfl rfl h.todo h.defers
theorem FrameOk.enter {f : FuncId} {args : Array Value} {k : CallKind} (h : StepOk V) (hk : k = .normal ∨ k = .deferred) (he : V.sh.funcs[f]? = V.re.funcs[f]?) (hs : (V.sh.funcs[f]?).isSome = true) : FrameOk V (Frame.enter V.re f args k) := by
  refine ⟨rfl, hk, ?_, by simp [Frame.enter], he, hs⟩
  intro it hit
  obtain rfl : it = .code (((V.re.funcs[f]?).bind (·.body)).getD (.refuse "unsupported: a function without a Go body is entered")) := by simpa [Frame.enter] using hit
  cases hf : V.re.funcs[f]? with
  | none => rfl
  | some fn =>
    cases hb : fn.body with
    | none => simp [hb, itemOk, codeOk]
    | some c => simpa [hb, itemOk] using h.code f fn c he hf hb
theorem enter_same {f : FuncId} {args : Array Value} {k : CallKind} (he : V.sh.funcs[f]? = V.re.funcs[f]?) : Frame.enter V.sh f args k = Frame.enter V.re f args k := by
  unfold Frame.enter
  rw [he]
end
end Go.Proofs.YtnknfolnbhljfaaDoor.Lift
end

section
/- One operation of a goroutine, walked alike. -/
namespace Go.Proofs.YtnknfolnbhljfaaDoor.Lift
open Go Go.Conc
set_option linter.unusedSimpArgs false
set_option linter.unusedVariables false
section
variable {V : Env}
theorem Out.sub {Bad : Nat → Prop} {w1 w2 w1' w2' : World} {new es : Array Event} (h : Out V Bad w1 w2 w1' w2' new) (hs : ∀ e ∈ es, e ∈ new) : Out V Bad w1 w2 w1' w2' es :=
  ⟨h.sh, h.dr, h.t2, fun e he => h.evs e (hs e he)⟩
theorem recover_alike {tl1 tl2 : List Frame} (m1 : ∀ f ∈ tl1, f.mode = .run) (m2 : ∀ f ∈ tl2, f.mode = .run) {fr : Frame} (hk : fr.kind = .normal ∨ fr.kind = .deferred) (cs : List Frame) :
    (tryRecover fr (cs ++ tl1) = none ∧ tryRecover fr (cs ++ tl2) = none) ∨
    ∃ v c cs0 md, cs = c :: cs0 ∧ tryRecover fr (cs ++ tl1) = some (v, ({ c with mode := md } :: cs0) ++ tl1) ∧ tryRecover fr (cs ++ tl2) = some (v, ({ c with mode := md } :: cs0) ++ tl2) := by
  have nil : ∀ tl : List Frame, (∀ f ∈ tl, f.mode = .run) → fr.kind = .deferred → tryRecover fr tl = none := by
    intro tl h hd
    cases tl with
    | nil => unfold tryRecover; rw [hd]
    | cons c tl =>
      unfold tryRecover
      rw [hd]
      dsimp only
      rw [h c List.mem_cons_self]
  rcases hk with hk | hk
  · left
    constructor <;> (unfold tryRecover; rw [hk])
  · cases cs with
    | nil => exact .inl ⟨nil _ m1 hk, nil _ m2 hk⟩
    | cons c cs0 =>
      have key : ∀ tl, tryRecover fr ((c :: cs0) ++ tl) = (match c.mode with
          | .panicking ({ v, recovered := false, goexit := false } :: older) => some (v, ({ c with mode := .panicking ({ v, recovered := true } :: older) } :: cs0) ++ tl)
          | _ => none) := by
        intro tl
        show tryRecover fr (c :: (cs0 ++ tl)) = _
        unfold tryRecover
        rw [hk]
        rfl
      rw [key, key]
      split
      · exact .inr ⟨_, _, _, _, rfl, rfl, rfl⟩
      · exact .inl ⟨rfl, rfl⟩
theorem callKind_of {fr : Frame} (h : FrameOk V fr) : (match fr.todo with | .call _ true _ _ :: _ => CallKind.wrapped | _ => .normal) = .normal := by
  have ht := h.todo
  split
  · rename_i heq
    rw [heq] at ht
    exact absurd (ht _ List.mem_cons_self) (by simp [itemOk])
  · rfl
theorem mate_here {tl1 tl2 : List Frame} {cs : List Frame} (hcs : ∀ c ∈ cs, FrameOk V c) {a : Frame} (ha : FrameOk V a) :
    Mate V tl1 tl2 { frame := a, callers := cs ++ tl1, status := .running, dying := none } { frame := a, callers := cs ++ tl2, status := .running, dying := none } :=
  ⟨cs, a, a, rfl, rfl, hcs, .inl ⟨rfl, ha⟩⟩
theorem mate_enter (h : StepOk V) {tl1 tl2 : List Frame} {cs : List Frame} (hcs : ∀ c ∈ cs, FrameOk V c) {fr : Frame} (hf : FrameOk V fr) (f : FuncId) (hs : (V.sh.funcs[f]?).isSome = true) (args : Array Value) {k : CallKind} (hk : k = .normal ∨ k = .deferred) :
    Mate V tl1 tl2 { frame := Frame.enter V.sh f args k, callers := fr :: (cs ++ tl1), status := .running, dying := none } { frame := Frame.enter V.re f args k, callers := fr :: (cs ++ tl2), status := .running, dying := none } := by
  refine ⟨fr :: cs, _, _, rfl, rfl, fun c hc => ?_, ?_⟩
  · rcases List.mem_cons.1 hc with rfl | hc
    · exact hf
    · exact hcs c hc
  · by_cases he : V.sh.funcs[f]? = V.re.funcs[f]?
    · left
      rw [enter_same he]
      exact ⟨rfl, FrameOk.enter h hk he hs⟩
    · exact .inr ⟨f, args, k, he, hk, rfl, rfl⟩
theorem Lead.readyAt {α : Type} {s : Sem α} (h : Lead V s) (ht : V.sh.toTables = V.re.toTables) {w v : World} {e : Halt} (hc : Calm w) (hr : s.run V.sh w = .halt e v) (he : Soft e) : Ready e := by
  have h1 := h (fun _ => False) w w v.drawn #[] (fun _ _ => id) ⟨ht, rfl, fun _ _ => .inl rfl, fun _ hi => hi.elim, fun _ hi => hi.elim, rfl, rfl, hc, fun _ => rfl, fun _ _ _ => rfl, fun _ _ hi => hi.elim⟩ (fun _ _ => rfl)
  rw [hr] at h1
  exact (h1 he (by omega)).1
theorem apply_alike (h : StepOk V) {tl1 tl2 : List Frame} (m1 : ∀ f ∈ tl1, f.mode = .run) (m2 : ∀ f ∈ tl2, f.mode = .run) {Bad : Nat → Prop} {w1 w2 : World} {m : Nat} (hB : ∀ i, V.ok i → ¬ Bad i) (hS : Sh V Bad w1 w2) (hT : Tap m w1 w2)
    {fr : Frame} (hf : FrameOk V fr) {cs : List Frame} (hcs : ∀ c ∈ cs, FrameOk V c) {s : Sem Next} (hp : Plays V s) :
    Carried V tl1 tl2 Bad m w1 w2 (stepG.apply V.sh true fr (cs ++ tl1) none s w1) (stepG.apply V.re true fr (cs ++ tl2) none s w2) := by
  intro g1 w1' es1 hgo hst hdy hcl hm
  have lead := hp.lead Bad w1 w2 m #[] hB hS hT
  have hrun : s.run V.sh w1 = (s.runT V.sh w1 #[]).1 := (Sem.runT_fst ..).symm
  have hearly : (fr.kind == .early) = false := by rcases hf.kind with h | h <;> rw [h] <;> rfl
  unfold stepG.apply at hgo ⊢
  simp only [callKind_of hf, hearly, hf.round, Bool.false_eq_true, ↓reduceIte] at hgo ⊢
  rcases hx : s.runT V.sh w1 #[] with ⟨r1, e1⟩
  rw [hx] at hrun
  rw [hrun] at lead
  have sub : ∀ (new : Array Event) (es0 : Array Event), (∀ e ∈ es0, e ∈ new) → ∀ e ∈ es0 ++ #[], e ∈ new := by
    intro new es0 h0 e he
    exact h0 e (by simpa using he)
  have sub0 : ∀ (fn : FuncId) (new : Array Event), ∀ e ∈ seen V.re fn (#[] ++ new), e ∈ new := by
    intro fn new e he
    simpa using mem_seen V.re fn (#[] ++ new) e he
  simp only [hx] at hgo
  cases r1 with
  | ok n v1 =>
    have hn := hp.only hS.tab w1 n v1 hS.calm hrun
    cases n with
    | value x =>
      simp only [GStep.after, GStep.go.injEq] at hgo
      obtain ⟨rfl, rfl, _⟩ := hgo
      obtain ⟨v2, new, hx2, ho⟩ := lead hm
      simp only [hx2, GStep.after]
      exact ⟨_, _, _, rfl, ho.sub (sub _ _ (sub0 _ _)), mate_here hcs (hf.finish x)⟩
    | skip =>
      simp only [GStep.after, GStep.go.injEq] at hgo
      obtain ⟨rfl, rfl, _⟩ := hgo
      obtain ⟨v2, new, hx2, ho⟩ := lead hm
      simp only [hx2, GStep.after]
      exact ⟨_, _, _, rfl, ho.sub (sub _ _ (sub0 _ _)), mate_here hcs (hf.finish _)⟩
    | enter f args =>
      simp only [GStep.after, GStep.go.injEq] at hgo
      obtain ⟨rfl, rfl, _⟩ := hgo
      obtain ⟨v2, new, hx2, ho⟩ := lead hm
      simp only [hx2, GStep.after]
      exact ⟨_, _, _, rfl, ho.sub (sub _ _ (sub0 _ _)), mate_enter h hcs hf f hn args (.inl (callKind_of hf))⟩
    | defer d =>
      simp only [GStep.after, GStep.go.injEq] at hgo
      obtain ⟨rfl, rfl, _⟩ := hgo
      obtain ⟨v2, new, hx2, ho⟩ := lead hm
      simp only [hx2, GStep.after]
      refine ⟨_, _, _, rfl, ho.sub (sub _ _ (sub0 _ _)), mate_here hcs (FrameOk.finish ?_ _)⟩
      refine hf.mk' hf.round.symm rfl rfl hf.todo fun d' hd' => ?_
      rcases List.mem_cons.1 hd' with rfl | hd'
      · exact hn
      · exact hf.defers d' hd'
    | recover =>
      rcases recover_alike m1 m2 hf.kind cs with ⟨r1, r2⟩ | ⟨v, c, cs0, md, rfl, r1, r2⟩
      · simp only [r1, GStep.after, GStep.go.injEq] at hgo
        obtain ⟨rfl, rfl, _⟩ := hgo
        obtain ⟨v2, new, hx2, ho⟩ := lead hm
        simp only [hx2, r2, GStep.after]
        exact ⟨_, _, _, rfl, ho.sub (sub _ _ (sub0 _ _)), mate_here hcs (hf.finish _)⟩
      · simp only [r1, GStep.after, GStep.go.injEq] at hgo
        obtain ⟨rfl, rfl, _⟩ := hgo
        obtain ⟨v2, new, hx2, ho⟩ := lead hm
        simp only [hx2, r2, GStep.after]
        refine ⟨_, _, _, rfl, ho.sub (sub _ _ (sub0 _ _)), mate_here (fun c' hc' => ?_) (hf.finish _)⟩
        rcases List.mem_cons.1 hc' with rfl | hc'
        · exact (hcs c List.mem_cons_self).moded _
        · exact hcs c' (List.mem_cons_of_mem _ hc')
    | _ => exact hn.elim
  | halt hh v1 =>
    cases hh with
    | panic x =>
      simp only [GStep.after, GStep.go.injEq] at hgo
      obtain ⟨rfl, rfl, _⟩ := hgo
      obtain ⟨_, v2, new, hx2, ho⟩ := lead trivial hm
      simp only [hx2, GStep.after]
      exact ⟨_, _, _, rfl, ho.sub (sub _ _ (sub0 _ _)), mate_here hcs (hf.raise _)⟩
    | goexit =>
      simp only [GStep.after, GStep.go.injEq] at hgo
      obtain ⟨rfl, rfl, _⟩ := hgo
      obtain ⟨_, v2, new, hx2, ho⟩ := lead trivial hm
      simp only [hx2, GStep.after]
      exact ⟨_, _, _, rfl, ho.sub (sub _ _ (sub0 _ _)), mate_here hcs (hf.raise _)⟩
    | unsupported u =>
      cases u with
      | initOrder g => exact (hp.lead.readyAt hS.tab hS.calm hrun trivial).elim
      | _ => simp [GStep.after] at hgo
    | blocked =>
      simp only [GStep.after, GStep.go.injEq] at hgo
      obtain ⟨rfl, _⟩ := hgo
      cases hst
    | waiting =>
      simp only [GStep.after, GStep.go.injEq] at hgo
      obtain ⟨rfl, _⟩ := hgo
      cases hst
    | exit c => simp [GStep.after] at hgo
    | stuck c => simp [GStep.after] at hgo
    | fatal c =>
      exfalso
      unfold endFatal at hgo
      simp only at hgo
      split at hgo
      · simp only [dieOf, GStep.after, GStep.go.injEq] at hgo
        obtain ⟨rfl, _⟩ := hgo
        cases hdy
      · simp [GStep.after] at hgo
      · simp [GStep.after] at hgo
    | throw c =>
      simp only [endThrow, dieOf, GStep.after, GStep.go.injEq] at hgo
      obtain ⟨rfl, _⟩ := hgo
      cases hdy
end
end Go.Proofs.YtnknfolnbhljfaaDoor.Lift
end

section
/- One step of a goroutine that runs, walked alike. -/
namespace Go.Proofs.YtnknfolnbhljfaaDoor.Lift
open Go Go.Conc
set_option linter.unusedSimpArgs false
set_option linter.unusedVariables false
section
variable {V : Env}
theorem exitTo_sub : ∀ (k : List Item) (id : Nat) (k' : List Item), exitTo id k = some k' → ∀ it ∈ k', it ∈ k := by
  intro k
  induction k with
  | nil => intro id k' h; simp [exitTo] at h
  | cons x k ih =>
    intro id k' h it hit
    unfold exitTo at h
    split at h
    · rename_i id' k0 heq
      cases heq
      split at h
      · cases h
        exact List.mem_cons_of_mem _ hit
      · exact List.mem_cons_of_mem _ (ih id k' h it hit)
    · rename_i x0 k0 _ heq
      cases heq
      exact List.mem_cons_of_mem _ (ih id k' h it hit)
    · rename_i heq
      cases heq
theorem findLabel_ok {P : Program} : ∀ (c : Code) (l : Nat) (c' : Code), findLabel c l = some c' → codeOk P c = true → codeOk P c' = true := by
  intro c
  induction c with
  | seq a b iha ihb =>
    intro l c' h hc
    have h2 : codeOk P a = true ∧ codeOk P b = true := by simpa [codeOk] using hc
    unfold findLabel at h
    split at h
    · rename_i r hr
      cases h
      simp [codeOk, iha l r hr h2.1, h2.2]
    · exact ihb l c' h h2.2
  | label l' =>
    intro l c' h hc
    unfold findLabel at h
    split at h
    · cases h; rfl
    · cases h
  | _ => intro l c' h hc; simp [findLabel] at h
theorem gotoIn_ok {P : Program} : ∀ (k : List Item) (l : Nat) (k' : List Item), gotoIn l k = some k' → (∀ it ∈ k, itemOk P it = true) → ∀ it ∈ k', itemOk P it = true := by
  intro k
  induction k with
  | nil => intro l k' h; simp [gotoIn] at h
  | cons x k ih =>
    intro l k' h hk it hit
    unfold gotoIn at h
    split at h
    · rename_i body k0 heq
      cases heq
      split at h
      · rename_i rest hr
        cases h
        rcases List.mem_cons.1 hit with rfl | hit
        · exact findLabel_ok body l rest hr (hk (.inScope body) List.mem_cons_self)
        · exact hk it hit
      · exact ih l k' h (fun y hy => hk y (List.mem_cons_of_mem _ hy)) it hit
    · rename_i x0 k0 _ heq
      cases heq
      exact ih l k' h (fun y hy => hk y (List.mem_cons_of_mem _ hy)) it hit
    · rename_i heq
      cases heq
/-- A step that moves within the frame alone. -/
theorem carried_to {tl1 tl2 : List Frame} {Bad : Nat → Prop} {m : Nat} {w1 w2 : World} (hS : Sh V Bad w1 w2) {cs : List Frame} (hcs : ∀ c ∈ cs, FrameOk V c) {a : Frame} (ha : FrameOk V a) :
    Carried V tl1 tl2 Bad m w1 w2 (.go { frame := a, callers := cs ++ tl1, status := .running, dying := none } w1) (.go { frame := a, callers := cs ++ tl2, status := .running, dying := none } w2) := by
  intro g1 w1' es1 hgo hst hdy hcl hm
  simp only [GStep.go.injEq] at hgo
  obtain ⟨rfl, rfl, _⟩ := hgo
  exact ⟨_, _, _, rfl, Out.refl hS, mate_here hcs ha⟩
theorem carried_ended {tl1 tl2 : List Frame} {Bad : Nat → Prop} {m : Nat} {w1 w2 w : World} {o : Outcome} {s2 : GStep} {es : Array Event} : Carried V tl1 tl2 Bad m w1 w2 (.ended o w es) s2 := by
  intro g1 w1' es1 hgo
  cases hgo
theorem FrameOk.to {fr : Frame} (h : FrameOk V fr) {k : List Item} (hk : ∀ it ∈ k, itemOk V.re it = true) : FrameOk V { fr with todo := k } := h.mk' rfl rfl rfl hk h.defers
theorem oper_alike (h : StepOk V) {tl1 tl2 : List Frame} (m1 : ∀ f ∈ tl1, f.mode = .run) (m2 : ∀ f ∈ tl2, f.mode = .run) {Bad : Nat → Prop} {w1 w2 : World} {m : Nat} (hB : ∀ i, V.ok i → ¬ Bad i) (hS : Sh V Bad w1 w2) (hT : Tap m w1 w2)
    {fr : Frame} (hf : FrameOk V fr) {cs : List Frame} (hcs : ∀ c ∈ cs, FrameOk V c) :
    Carried V tl1 tl2 Bad m w1 w2 (stepG.oper V.sh true fr (cs ++ tl1) none w1) (stepG.oper V.re true fr (cs ++ tl2) none w2) := by
  unfold stepG.oper
  have ho : ∀ o, fr.oper? = some o → opOk V.re o = true := by
    intro o ho
    unfold Frame.oper? at ho
    have ht := hf.todo
    split at ho
    · rename_i ops i r k heq
      rw [heq] at ht
      have h1 := ht _ List.mem_cons_self
      simp only [itemOk, Array.all_eq_true_iff_forall_mem] at h1
      exact h1 o (Array.mem_of_getElem? ho)
    · cases ho
  cases hop : fr.oper? with
  | none => exact carried_ended
  | some o =>
    dsimp only
    rw [hf.round]
    exact apply_alike h m1 m2 hB hS hT hf hcs (Plays.execOp h.funcs _ o (ho o hop))
theorem exec_alike (h : StepOk V) {tl1 tl2 : List Frame} (m1 : ∀ f ∈ tl1, f.mode = .run) (m2 : ∀ f ∈ tl2, f.mode = .run) {Bad : Nat → Prop} {w1 w2 : World} {m : Nat} (hB : ∀ i, V.ok i → ¬ Bad i) (hS : Sh V Bad w1 w2) (hT : Tap m w1 w2)
    {fr : Frame} (hf : FrameOk V fr) {cs : List Frame} (hcs : ∀ c ∈ cs, FrameOk V c) :
    Carried V tl1 tl2 Bad m w1 w2 (stepG.exec V.sh true true fr (cs ++ tl1) none w1) (stepG.exec V.re true true fr (cs ++ tl2) none w2) := by
  obtain ⟨fn, tmps, todo, defers, mode, kind, ro⟩ := fr
  obtain rfl : ro = none := hf.round
  have ht : ∀ it ∈ todo, itemOk V.re it = true := hf.todo
  have to : ∀ {k : List Item}, (∀ it ∈ k, itemOk V.re it = true) → FrameOk V ⟨fn, tmps, k, defers, mode, kind, none⟩ := fun hk => hf.to hk
  have back : FrameOk V ⟨fn, tmps, todo, defers, .returning, kind, none⟩ := hf.moded _
  have cons : ∀ {x : Item} {k : List Item}, itemOk V.re x = true → (∀ it ∈ k, itemOk V.re it = true) → ∀ it ∈ x :: k, itemOk V.re it = true := by
    intro x k hx hk it hit
    rcases List.mem_cons.1 hit with rfl | hit
    · exact hx
    · exact hk it hit
  cases todo with
  | nil => exact carried_to hS hcs back
  | cons x k =>
    have tl : ∀ it ∈ k, itemOk V.re it = true := fun it hit => ht it (List.mem_cons_of_mem _ hit)
    have hx := ht x List.mem_cons_self
    cases x with
    | code c =>
      cases c with
      | skip => exact carried_to hS hcs (to tl)
      | label l => exact carried_to hS hcs (to tl)
      | ret => exact carried_to hS hcs back
      | refuse y => exact carried_ended
      | seq a b =>
        simp only [itemOk, codeOk, Bool.and_eq_true] at hx
        exact carried_to hS hcs (to (cons hx.1 (cons hx.2 tl)))
      | cond c a b =>
        simp only [itemOk, codeOk, Bool.and_eq_true] at hx
        unfold stepG.exec
        dsimp only
        have e : Frame.eval ⟨fn, tmps, .code (.cond c a b) :: k, defers, mode, kind, none⟩ c = Frame.eval ⟨fn, tmps, .code (.cond c a b) :: k, defers, mode, kind, none⟩ c := rfl
        generalize Frame.eval ⟨fn, tmps, .code (.cond c a b) :: k, defers, mode, kind, none⟩ c = v
        cases v with
        | bool t =>
          refine carried_to hS hcs (to (cons ?_ tl))
          cases t
          · exact hx.2
          · exact hx.1
        | _ => exact carried_ended
      | block i b => exact carried_to hS hcs (to (cons hx (cons rfl tl)))
      | loop b => exact carried_to hS hcs (to (cons hx (cons hx tl)))
      | scope b => exact carried_to hS hcs (to (cons hx (cons hx tl)))
      | exit i =>
        unfold stepG.exec
        dsimp only
        cases he : exitTo i k with
        | none => exact carried_ended
        | some k' => exact carried_to hS hcs (to fun it hit => tl it (exitTo_sub k i k' he it hit))
      | goto l =>
        unfold stepG.exec
        dsimp only
        cases he : gotoIn l k with
        | none => exact carried_ended
        | some k' => exact carried_to hS hcs (to (gotoIn_ok k l k' he tl))
      | rangeFunc a b c d => cases hx
      | region id ops draw =>
        unfold stepG.exec
        dsimp only
        cases draw with
        | false => exact carried_to hS hcs (to (cons hx tl))
        | true =>
          simp only [Bool.not_true, Bool.false_eq_true, ↓reduceIte]
          have lead := Lead.choose (V := V) (.order fn id) Bad w1 w2 m #[] hB hS hT
          intro g1 w1' es1 hgo hst hdy hcl hm
          cases hr : (Go.choose (.order fn id)).run V.sh w1 with
          | halt e v => rw [hr] at hgo; cases hgo
          | ok t v1 =>
            rw [hr] at lead hgo
            simp only [GStep.go.injEq] at hgo
            obtain ⟨rfl, rfl, _⟩ := hgo
            obtain ⟨v2, new, hx2, ho⟩ := lead hm
            have h2 : (Go.choose (.order fn id)).run V.re w2 = .ok t v2 := by rw [← Sem.runT_fst V.re _ w2 #[], hx2]
            rw [h2]
            dsimp only
            have hfo : V.re.follows = V.sh.follows := by
              have := h.funcs.tab.tables
              funext d
              show V.re.toTables.follows d = V.sh.toTables.follows d
              rw [this]
            rw [hfo]
            exact ⟨_, _, _, rfl, ho.sub (by simp), mate_here hcs (to (cons hx tl))⟩
    | inBlock i => exact carried_to hS hcs (to tl)
    | inScope b => exact carried_to hS hcs (to tl)
    | inLoop b => exact carried_to hS hcs (to (cons hx (cons hx tl)))
    | inRegion ops l =>
      cases l with
      | nil => exact carried_to hS hcs (to tl)
      | cons i r =>
        unfold stepG.exec
        dsimp only
        split
        · exact oper_alike h m1 m2 hB hS hT hf hcs
        · exact carried_to hS hcs (hf.finish _)
    | _ => cases hx
end
end Go.Proofs.YtnknfolnbhljfaaDoor.Lift
end
