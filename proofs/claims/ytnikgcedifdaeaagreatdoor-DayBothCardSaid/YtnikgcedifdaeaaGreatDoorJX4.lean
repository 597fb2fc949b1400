/- Texts of the proof, joined by a program (part 4): contracts of functions, plain laws. -/
import Derived.Test.YtnikgcedifdaeaaGreatDoorJX3
set_option linter.unusedVariables false
set_option linter.unusedSimpArgs false
set_option linter.unusedSectionVars false
section
/- The model's operations, walked alike (Lead); printed by a program of mine (gen_ops2.py). -/
namespace Go.Proofs.YtnikgcedifdaeaaGreatDoor.Lift
open Go Go.Conc
set_option linter.unusedVariables false
set_option linter.unusedSimpArgs false
section
variable {V : Env}
theorem Lead.typeStr (h : Tab V) (t : TypeId) : Lead V (Go.typeStr t) := by
    unfold Go.typeStr
    repeat' first
      | (with_reducible refine Lead.getObjH h _ ?gk_ (.inr ?gd_) (fun _ _ h => ?_); (case gk_ => intros; rfl); (case gd_ => intro w_; refine ⟨_, _, rfl, ?_⟩; simp [Soft]))
      | (with_reducible refine Lead.forInArray _ ?_ _ _; intro _ _)
      | (with_reducible refine Lead.forInRange _ ?_ _ _; intro _ _)
      | (with_reducible refine Lead.forInList _ ?_ _ _; intro _ _)
      | (with_reducible refine Lead.mapArray _ ?_ _; intro _)
      | (with_reducible refine Lead.foldlM _ ?_ _ _; intro _ _)
      | with_reducible assumption
      | with_reducible exact Lead.pure _
      | with_reducible exact Lead.stuck _
      | with_reducible exact Lead.unsupported _
      | with_reducible exact Lead.goPanic _
      | with_reducible exact Lead.typeInfo h _
      | with_reducible refine Lead.bind ?_ (fun _ => ?_)
      | with_reducible refine Lead.map ?_
      | with_reducible refine Lead.iteH (fun _ => ?_) (fun _ => ?_)
      | split
      | dsimp only

theorem Lead.loadAt (h : Tab V) (t : TypeId) (a : Value) : Lead V (Instr.loadAt t a) := by
    unfold Instr.loadAt
    repeat' first
      | (with_reducible refine Lead.getObjH h _ ?gk_ (.inr ?gd_) (fun _ _ h => ?_); (case gk_ => intros; rfl); (case gd_ => intro w_; refine ⟨_, _, rfl, ?_⟩; simp [Soft]))
      | (with_reducible refine Lead.forInArray _ ?_ _ _; intro _ _)
      | (with_reducible refine Lead.forInRange _ ?_ _ _; intro _ _)
      | (with_reducible refine Lead.forInList _ ?_ _ _; intro _ _)
      | (with_reducible refine Lead.mapArray _ ?_ _; intro _)
      | (with_reducible refine Lead.foldlM _ ?_ _ _; intro _ _)
      | with_reducible assumption
      | with_reducible exact Lead.pure _
      | with_reducible exact Lead.stuck _
      | with_reducible exact Lead.unsupported _
      | with_reducible exact Lead.goPanic _
      | with_reducible exact Lead.loadVar h _ _
      | with_reducible exact Lead.sureAddr _
      | with_reducible refine Lead.bind ?_ (fun _ => ?_)
      | with_reducible refine Lead.map ?_
      | with_reducible refine Lead.iteH (fun _ => ?_) (fun _ => ?_)
      | split
      | dsimp only

theorem Lead.storeAt (h : Tab V) (t : TypeId) (a v : Value) : Lead V (Instr.storeAt t a v) := by
    unfold Instr.storeAt
    repeat' first
      | (with_reducible refine Lead.getObjH h _ ?gk_ (.inr ?gd_) (fun _ _ h => ?_); (case gk_ => intros; rfl); (case gd_ => intro w_; refine ⟨_, _, rfl, ?_⟩; simp [Soft]))
      | (with_reducible refine Lead.forInArray _ ?_ _ _; intro _ _)
      | (with_reducible refine Lead.forInRange _ ?_ _ _; intro _ _)
      | (with_reducible refine Lead.forInList _ ?_ _ _; intro _ _)
      | (with_reducible refine Lead.mapArray _ ?_ _; intro _)
      | (with_reducible refine Lead.foldlM _ ?_ _ _; intro _ _)
      | with_reducible assumption
      | with_reducible exact Lead.pure _
      | with_reducible exact Lead.stuck _
      | with_reducible exact Lead.unsupported _
      | with_reducible exact Lead.goPanic _
      | with_reducible exact Lead.storeVar h _ _ _
      | with_reducible exact Lead.sureAddr _
      | with_reducible refine Lead.bind ?_ (fun _ => ?_)
      | with_reducible refine Lead.map ?_
      | with_reducible refine Lead.iteH (fun _ => ?_) (fun _ => ?_)
      | split
      | dsimp only

theorem Lead.alloc (h : Tab V) (t : TypeId) (b : Bool) (v : Value) : Lead V (Instr.alloc t b v) := by
    unfold Instr.alloc
    repeat' first
      | (with_reducible refine Lead.getObjH h _ ?gk_ (.inr ?gd_) (fun _ _ h => ?_); (case gk_ => intros; rfl); (case gd_ => intro w_; refine ⟨_, _, rfl, ?_⟩; simp [Soft]))
      | (with_reducible refine Lead.forInArray _ ?_ _ _; intro _ _)
      | (with_reducible refine Lead.forInRange _ ?_ _ _; intro _ _)
      | (with_reducible refine Lead.forInList _ ?_ _ _; intro _ _)
      | (with_reducible refine Lead.mapArray _ ?_ _; intro _)
      | (with_reducible refine Lead.foldlM _ ?_ _ _; intro _ _)
      | with_reducible assumption
      | with_reducible exact Lead.pure _
      | with_reducible exact Lead.stuck _
      | with_reducible exact Lead.unsupported _
      | with_reducible exact Lead.goPanic _
      | with_reducible exact Lead.zeroValue h _
      | with_reducible exact Lead.storeVar h _ _ _
      | with_reducible exact Lead.newVar _ _
      | with_reducible refine Lead.bind ?_ (fun _ => ?_)
      | with_reducible refine Lead.map ?_
      | with_reducible refine Lead.iteH (fun _ => ?_) (fun _ => ?_)
      | split
      | dsimp only

theorem Lead.box (h : Tab V) (t : TypeId) (v : Value) : Lead V (Instr.box t v) := by
    unfold Instr.box
    repeat' first
      | (with_reducible refine Lead.getObjH h _ ?gk_ (.inr ?gd_) (fun _ _ h => ?_); (case gk_ => intros; rfl); (case gd_ => intro w_; refine ⟨_, _, rfl, ?_⟩; simp [Soft]))
      | (with_reducible refine Lead.forInArray _ ?_ _ _; intro _ _)
      | (with_reducible refine Lead.forInRange _ ?_ _ _; intro _ _)
      | (with_reducible refine Lead.forInList _ ?_ _ _; intro _ _)
      | (with_reducible refine Lead.mapArray _ ?_ _; intro _)
      | (with_reducible refine Lead.foldlM _ ?_ _ _; intro _ _)
      | with_reducible assumption
      | with_reducible exact Lead.pure _
      | with_reducible exact Lead.stuck _
      | with_reducible exact Lead.unsupported _
      | with_reducible exact Lead.goPanic _
      | with_reducible exact Lead.newVar _ _
      | with_reducible refine Lead.bind ?_ (fun _ => ?_)
      | with_reducible refine Lead.map ?_
      | with_reducible refine Lead.iteH (fun _ => ?_) (fun _ => ?_)
      | split
      | dsimp only

theorem Lead.field (h : Tab V) (t : TypeId) (v : Value) (f : Nat) : Lead V (Instr.field t v f) := by
    unfold Instr.field
    repeat' first
      | (with_reducible refine Lead.getObjH h _ ?gk_ (.inr ?gd_) (fun _ _ h => ?_); (case gk_ => intros; rfl); (case gd_ => intro w_; refine ⟨_, _, rfl, ?_⟩; simp [Soft]))
      | (with_reducible refine Lead.forInArray _ ?_ _ _; intro _ _)
      | (with_reducible refine Lead.forInRange _ ?_ _ _; intro _ _)
      | (with_reducible refine Lead.forInList _ ?_ _ _; intro _ _)
      | (with_reducible refine Lead.mapArray _ ?_ _; intro _)
      | (with_reducible refine Lead.foldlM _ ?_ _ _; intro _ _)
      | with_reducible assumption
      | with_reducible exact Lead.pure _
      | with_reducible exact Lead.stuck _
      | with_reducible exact Lead.unsupported _
      | with_reducible exact Lead.goPanic _
      | with_reducible exact Lead.underlying h _
      | with_reducible exact Lead.part h _ _ _
      | with_reducible exact Lead.asInt _
      | with_reducible exact Lead.asAgg _
      | with_reducible exact Lead.load _ _
      | with_reducible refine Lead.bind ?_ (fun _ => ?_)
      | with_reducible refine Lead.map ?_
      | with_reducible refine Lead.iteH (fun _ => ?_) (fun _ => ?_)
      | split
      | dsimp only

theorem Lead.index (h : Tab V) (t : TypeId) (v i : Value) : Lead V (Instr.index t v i) := by
    unfold Instr.index
    repeat' first
      | (with_reducible refine Lead.getObjH h _ ?gk_ (.inr ?gd_) (fun _ _ h => ?_); (case gk_ => intros; rfl); (case gd_ => intro w_; refine ⟨_, _, rfl, ?_⟩; simp [Soft]))
      | (with_reducible refine Lead.forInArray _ ?_ _ _; intro _ _)
      | (with_reducible refine Lead.forInRange _ ?_ _ _; intro _ _)
      | (with_reducible refine Lead.forInList _ ?_ _ _; intro _ _)
      | (with_reducible refine Lead.mapArray _ ?_ _; intro _)
      | (with_reducible refine Lead.foldlM _ ?_ _ _; intro _ _)
      | with_reducible assumption
      | with_reducible exact Lead.pure _
      | with_reducible exact Lead.stuck _
      | with_reducible exact Lead.unsupported _
      | with_reducible exact Lead.goPanic _
      | with_reducible exact Lead.boundsPanic h _ _ _ _
      | with_reducible exact Lead.underlying h _
      | with_reducible exact Lead.sizeOf h _
      | with_reducible exact Lead.part h _ _ _
      | with_reducible exact Lead.asIntOf _
      | with_reducible exact Lead.asInt _
      | with_reducible exact Lead.load _ _
      | with_reducible refine Lead.bind ?_ (fun _ => ?_)
      | with_reducible refine Lead.map ?_
      | with_reducible refine Lead.iteH (fun _ => ?_) (fun _ => ?_)
      | split
      | dsimp only

theorem Lead.indexAt (h : Tab V) (t : TypeId) (v i : Value) : Lead V (Instr.indexAt t v i) := by
    unfold Instr.indexAt
    repeat' first
      | (with_reducible refine Lead.getObjH h _ ?gk_ (.inr ?gd_) (fun _ _ h => ?_); (case gk_ => intros; rfl); (case gd_ => intro w_; refine ⟨_, _, rfl, ?_⟩; simp [Soft]))
      | (with_reducible refine Lead.forInArray _ ?_ _ _; intro _ _)
      | (with_reducible refine Lead.forInRange _ ?_ _ _; intro _ _)
      | (with_reducible refine Lead.forInList _ ?_ _ _; intro _ _)
      | (with_reducible refine Lead.mapArray _ ?_ _; intro _)
      | (with_reducible refine Lead.foldlM _ ?_ _ _; intro _ _)
      | with_reducible assumption
      | with_reducible exact Lead.pure _
      | with_reducible exact Lead.stuck _
      | with_reducible exact Lead.unsupported _
      | with_reducible exact Lead.goPanic _
      | with_reducible exact Lead.boundsPanic h _ _ _ _
      | with_reducible exact Lead.underlying h _
      | with_reducible exact Lead.sizeOf h _
      | with_reducible exact Lead.asIntOf _
      | with_reducible exact Lead.sureAddr _
      | with_reducible exact Lead.index h _ _ _
      | with_reducible refine Lead.bind ?_ (fun _ => ?_)
      | with_reducible refine Lead.map ?_
      | with_reducible refine Lead.iteH (fun _ => ?_) (fun _ => ?_)
      | split
      | dsimp only

theorem Lead.sliceBound (h : Tab V) (x : Value) (y : Nat) (c : BoundsCode) : Lead V (Instr.sliceBound x y c) := by
    unfold Instr.sliceBound
    repeat' first
      | (with_reducible refine Lead.getObjH h _ ?gk_ (.inr ?gd_) (fun _ _ h => ?_); (case gk_ => intros; rfl); (case gd_ => intro w_; refine ⟨_, _, rfl, ?_⟩; simp [Soft]))
      | (with_reducible refine Lead.forInArray _ ?_ _ _; intro _ _)
      | (with_reducible refine Lead.forInRange _ ?_ _ _; intro _ _)
      | (with_reducible refine Lead.forInList _ ?_ _ _; intro _ _)
      | (with_reducible refine Lead.mapArray _ ?_ _; intro _)
      | (with_reducible refine Lead.foldlM _ ?_ _ _; intro _ _)
      | with_reducible assumption
      | with_reducible exact Lead.pure _
      | with_reducible exact Lead.stuck _
      | with_reducible exact Lead.unsupported _
      | with_reducible exact Lead.goPanic _
      | with_reducible exact Lead.boundsPanic h _ _ _ _
      | with_reducible exact Lead.asIntOf _
      | with_reducible refine Lead.bind ?_ (fun _ => ?_)
      | with_reducible refine Lead.map ?_
      | with_reducible refine Lead.iteH (fun _ => ?_) (fun _ => ?_)
      | split
      | dsimp only

theorem Lead.sliceBounds (h : Tab V) (b : Bool) (l c : Nat) (x y z : Option Value) : Lead V (Instr.sliceBounds b l c x y z) := by
    unfold Instr.sliceBounds
    repeat' first
      | (with_reducible refine Lead.getObjH h _ ?gk_ (.inr ?gd_) (fun _ _ h => ?_); (case gk_ => intros; rfl); (case gd_ => intro w_; refine ⟨_, _, rfl, ?_⟩; simp [Soft]))
      | (with_reducible refine Lead.forInArray _ ?_ _ _; intro _ _)
      | (with_reducible refine Lead.forInRange _ ?_ _ _; intro _ _)
      | (with_reducible refine Lead.forInList _ ?_ _ _; intro _ _)
      | (with_reducible refine Lead.mapArray _ ?_ _; intro _)
      | (with_reducible refine Lead.foldlM _ ?_ _ _; intro _ _)
      | with_reducible assumption
      | with_reducible exact Lead.pure _
      | with_reducible exact Lead.stuck _
      | with_reducible exact Lead.unsupported _
      | with_reducible exact Lead.goPanic _
      | with_reducible exact Lead.sliceBound h _ _ _
      | with_reducible refine Lead.bind ?_ (fun _ => ?_)
      | with_reducible refine Lead.map ?_
      | with_reducible refine Lead.iteH (fun _ => ?_) (fun _ => ?_)
      | split
      | dsimp only

theorem Lead.slice (h : Tab V) (t : TypeId) (x : Value) (l m n : Option Value) : Lead V (Instr.slice t x l m n) := by
    unfold Instr.slice
    repeat' first
      | (with_reducible refine Lead.getObjH h _ ?gk_ (.inr ?gd_) (fun _ _ h => ?_); (case gk_ => intros; rfl); (case gd_ => intro w_; refine ⟨_, _, rfl, ?_⟩; simp [Soft]))
      | (with_reducible refine Lead.forInArray _ ?_ _ _; intro _ _)
      | (with_reducible refine Lead.forInRange _ ?_ _ _; intro _ _)
      | (with_reducible refine Lead.forInList _ ?_ _ _; intro _ _)
      | (with_reducible refine Lead.mapArray _ ?_ _; intro _)
      | (with_reducible refine Lead.foldlM _ ?_ _ _; intro _ _)
      | with_reducible assumption
      | with_reducible exact Lead.pure _
      | with_reducible exact Lead.stuck _
      | with_reducible exact Lead.unsupported _
      | with_reducible exact Lead.goPanic _
      | with_reducible exact Lead.underlying h _
      | with_reducible exact Lead.typeInfo h _
      | with_reducible exact Lead.sizeOf h _
      | with_reducible exact Lead.newVar _ _
      | with_reducible exact Lead.asInt _
      | with_reducible exact Lead.asAddr h _
      | with_reducible exact Lead.index h _ _ _
      | with_reducible exact Lead.sliceBounds h _ _ _ _ _ _
      | with_reducible refine Lead.bind ?_ (fun _ => ?_)
      | with_reducible refine Lead.map ?_
      | with_reducible refine Lead.iteH (fun _ => ?_) (fun _ => ?_)
      | split
      | dsimp only

theorem Lead.sliceAt (h : Tab V) (t : TypeId) (x : Value) (l m n : Option Value) : Lead V (Instr.sliceAt t x l m n) := by
    unfold Instr.sliceAt
    repeat' first
      | (with_reducible refine Lead.getObjH h _ ?gk_ (.inr ?gd_) (fun _ _ h => ?_); (case gk_ => intros; rfl); (case gd_ => intro w_; refine ⟨_, _, rfl, ?_⟩; simp [Soft]))
      | (with_reducible refine Lead.forInArray _ ?_ _ _; intro _ _)
      | (with_reducible refine Lead.forInRange _ ?_ _ _; intro _ _)
      | (with_reducible refine Lead.forInList _ ?_ _ _; intro _ _)
      | (with_reducible refine Lead.mapArray _ ?_ _; intro _)
      | (with_reducible refine Lead.foldlM _ ?_ _ _; intro _ _)
      | with_reducible assumption
      | with_reducible exact Lead.pure _
      | with_reducible exact Lead.stuck _
      | with_reducible exact Lead.unsupported _
      | with_reducible exact Lead.goPanic _
      | with_reducible exact Lead.runtimePanic h _
      | with_reducible exact Lead.underlying h _
      | with_reducible exact Lead.typeInfo h _
      | with_reducible exact Lead.sizeOf h _
      | with_reducible exact Lead.asInt _
      | with_reducible exact Lead.sureAddr _
      | with_reducible exact Lead.sliceBounds h _ _ _ _ _ _
      | with_reducible exact Lead.slice h _ _ _ _ _
      | with_reducible refine Lead.bind ?_ (fun _ => ?_)
      | with_reducible refine Lead.map ?_
      | with_reducible refine Lead.iteH (fun _ => ?_) (fun _ => ?_)
      | split
      | dsimp only

theorem Lead.arrayAt (h : Tab V) (t : TypeId) (x : Value) : Lead V (Instr.arrayAt t x) := by
    unfold Instr.arrayAt
    repeat' first
      | (with_reducible refine Lead.getObjH h _ ?gk_ (.inr ?gd_) (fun _ _ h => ?_); (case gk_ => intros; rfl); (case gd_ => intro w_; refine ⟨_, _, rfl, ?_⟩; simp [Soft]))
      | (with_reducible refine Lead.forInArray _ ?_ _ _; intro _ _)
      | (with_reducible refine Lead.forInRange _ ?_ _ _; intro _ _)
      | (with_reducible refine Lead.forInList _ ?_ _ _; intro _ _)
      | (with_reducible refine Lead.mapArray _ ?_ _; intro _)
      | (with_reducible refine Lead.foldlM _ ?_ _ _; intro _ _)
      | with_reducible assumption
      | with_reducible exact Lead.pure _
      | with_reducible exact Lead.stuck _
      | with_reducible exact Lead.unsupported _
      | with_reducible exact Lead.goPanic _
      | with_reducible exact Lead.runtimePanic h _
      | with_reducible exact Lead.underlying h _
      | with_reducible exact Lead.slice h _ _ _ _ _
      | with_reducible refine Lead.bind ?_ (fun _ => ?_)
      | with_reducible refine Lead.map ?_
      | with_reducible refine Lead.iteH (fun _ => ?_) (fun _ => ?_)
      | split
      | dsimp only

theorem Lead.makeInterface (h : Tab V) (t : TypeId) (x : Value) : Lead V (Instr.makeInterface t x) := by
    unfold Instr.makeInterface
    repeat' first
      | (with_reducible refine Lead.getObjH h _ ?gk_ (.inr ?gd_) (fun _ _ h => ?_); (case gk_ => intros; rfl); (case gd_ => intro w_; refine ⟨_, _, rfl, ?_⟩; simp [Soft]))
      | (with_reducible refine Lead.forInArray _ ?_ _ _; intro _ _)
      | (with_reducible refine Lead.forInRange _ ?_ _ _; intro _ _)
      | (with_reducible refine Lead.forInList _ ?_ _ _; intro _ _)
      | (with_reducible refine Lead.mapArray _ ?_ _; intro _)
      | (with_reducible refine Lead.foldlM _ ?_ _ _; intro _ _)
      | with_reducible assumption
      | with_reducible exact Lead.pure _
      | with_reducible exact Lead.stuck _
      | with_reducible exact Lead.unsupported _
      | with_reducible exact Lead.goPanic _
      | with_reducible exact Lead.underlying h _
      | with_reducible refine Lead.bind ?_ (fun _ => ?_)
      | with_reducible refine Lead.map ?_
      | with_reducible refine Lead.iteH (fun _ => ?_) (fun _ => ?_)
      | split
      | dsimp only

theorem Lead.makeFunc (h : Tab V) (f : Fn) (a b : Array Value) : Lead V (Instr.makeFunc f a b) := by
    unfold Instr.makeFunc
    repeat' first
      | (with_reducible refine Lead.getObjH h _ ?gk_ (.inr ?gd_) (fun _ _ h => ?_); (case gk_ => intros; rfl); (case gd_ => intro w_; refine ⟨_, _, rfl, ?_⟩; simp [Soft]))
      | (with_reducible refine Lead.forInArray _ ?_ _ _; intro _ _)
      | (with_reducible refine Lead.forInRange _ ?_ _ _; intro _ _)
      | (with_reducible refine Lead.forInList _ ?_ _ _; intro _ _)
      | (with_reducible refine Lead.mapArray _ ?_ _; intro _)
      | (with_reducible refine Lead.foldlM _ ?_ _ _; intro _ _)
      | with_reducible assumption
      | with_reducible exact Lead.pure _
      | with_reducible exact Lead.stuck _
      | with_reducible exact Lead.unsupported _
      | with_reducible exact Lead.goPanic _
      | with_reducible exact Lead.underlying h _
      | with_reducible exact Lead.slice h _ _ _ _ _
      | with_reducible refine Lead.bind ?_ (fun _ => ?_)
      | with_reducible refine Lead.map ?_
      | with_reducible refine Lead.iteH (fun _ => ?_) (fun _ => ?_)
      | split
      | dsimp only

theorem Lead.extract (h : Tab V) (v : Value) (i : Nat) : Lead V (Instr.extract v i) := by
    unfold Instr.extract
    repeat' first
      | (with_reducible refine Lead.getObjH h _ ?gk_ (.inr ?gd_) (fun _ _ h => ?_); (case gk_ => intros; rfl); (case gd_ => intro w_; refine ⟨_, _, rfl, ?_⟩; simp [Soft]))
      | (with_reducible refine Lead.forInArray _ ?_ _ _; intro _ _)
      | (with_reducible refine Lead.forInRange _ ?_ _ _; intro _ _)
      | (with_reducible refine Lead.forInList _ ?_ _ _; intro _ _)
      | (with_reducible refine Lead.mapArray _ ?_ _; intro _)
      | (with_reducible refine Lead.foldlM _ ?_ _ _; intro _ _)
      | with_reducible assumption
      | with_reducible exact Lead.pure _
      | with_reducible exact Lead.stuck _
      | with_reducible exact Lead.unsupported _
      | with_reducible exact Lead.goPanic _
      | with_reducible exact Lead.index h _ _ _
      | with_reducible refine Lead.bind ?_ (fun _ => ?_)
      | with_reducible refine Lead.map ?_
      | with_reducible refine Lead.iteH (fun _ => ?_) (fun _ => ?_)
      | split
      | dsimp only

theorem Lead.buildSlice (h : Tab V) (t : TypeId) (n : Nat) (ps : Array (Nat × Value)) : Lead V (Instr.buildSlice t n ps) := by
    unfold Instr.buildSlice
    repeat' first
      | (with_reducible refine Lead.getObjH h _ ?gk_ (.inr ?gd_) (fun _ _ h => ?_); (case gk_ => intros; rfl); (case gd_ => intro w_; refine ⟨_, _, rfl, ?_⟩; simp [Soft]))
      | (with_reducible refine Lead.forInArray _ ?_ _ _; intro _ _)
      | (with_reducible refine Lead.forInRange _ ?_ _ _; intro _ _)
      | (with_reducible refine Lead.forInList _ ?_ _ _; intro _ _)
      | (with_reducible refine Lead.mapArray _ ?_ _; intro _)
      | (with_reducible refine Lead.foldlM _ ?_ _ _; intro _ _)
      | with_reducible assumption
      | with_reducible exact Lead.pure _
      | with_reducible exact Lead.stuck _
      | with_reducible exact Lead.unsupported _
      | with_reducible exact Lead.goPanic _
      | with_reducible exact Lead.underlying h _
      | with_reducible exact Lead.zeroValue h _
      | with_reducible exact Lead.sizeOf h _
      | with_reducible exact Lead.newRow _ _
      | with_reducible exact Lead.part h _ _ _
      | with_reducible exact Lead.slice h _ _ _ _ _
      | with_reducible refine Lead.bind ?_ (fun _ => ?_)
      | with_reducible refine Lead.map ?_
      | with_reducible refine Lead.iteH (fun _ => ?_) (fun _ => ?_)
      | split
      | dsimp only

theorem Lead.makeSlice (h : Tab V) (t : TypeId) (l c : Value) : Lead V (Instr.makeSlice t l c) := by
    unfold Instr.makeSlice
    repeat' first
      | (with_reducible refine Lead.getObjH h _ ?gk_ (.inr ?gd_) (fun _ _ h => ?_); (case gk_ => intros; rfl); (case gd_ => intro w_; refine ⟨_, _, rfl, ?_⟩; simp [Soft]))
      | (with_reducible refine Lead.forInArray _ ?_ _ _; intro _ _)
      | (with_reducible refine Lead.forInRange _ ?_ _ _; intro _ _)
      | (with_reducible refine Lead.forInList _ ?_ _ _; intro _ _)
      | (with_reducible refine Lead.mapArray _ ?_ _; intro _)
      | (with_reducible refine Lead.foldlM _ ?_ _ _; intro _ _)
      | with_reducible assumption
      | with_reducible exact Lead.pure _
      | with_reducible exact Lead.stuck _
      | with_reducible exact Lead.unsupported _
      | with_reducible exact Lead.goPanic _
      | with_reducible exact Lead.runtimePanic h _
      | with_reducible exact Lead.underlying h _
      | with_reducible exact Lead.typeInfo h _
      | with_reducible exact Lead.zeroValue h _
      | with_reducible exact Lead.sizeOf h _
      | with_reducible exact Lead.newRow _ _
      | with_reducible exact Lead.asInt _
      | with_reducible exact Lead.choose _
      | with_reducible exact Lead.askRoom _
      | with_reducible exact Lead.slice h _ _ _ _ _
      | with_reducible refine Lead.bind ?_ (fun _ => ?_)
      | with_reducible refine Lead.map ?_
      | with_reducible refine Lead.iteH (fun _ => ?_) (fun _ => ?_)
      | split
      | dsimp only

theorem Lead.intArith (h : Tab V) (o : BinOp) (k : IntKind) (x y : Int) : Lead V (Op.intArith o k x y) := by
    unfold Op.intArith
    repeat' first
      | (with_reducible refine Lead.getObjH h _ ?gk_ (.inr ?gd_) (fun _ _ h => ?_); (case gk_ => intros; rfl); (case gd_ => intro w_; refine ⟨_, _, rfl, ?_⟩; simp [Soft]))
      | (with_reducible refine Lead.forInArray _ ?_ _ _; intro _ _)
      | (with_reducible refine Lead.forInRange _ ?_ _ _; intro _ _)
      | (with_reducible refine Lead.forInList _ ?_ _ _; intro _ _)
      | (with_reducible refine Lead.mapArray _ ?_ _; intro _)
      | (with_reducible refine Lead.foldlM _ ?_ _ _; intro _ _)
      | with_reducible assumption
      | with_reducible exact Lead.pure _
      | with_reducible exact Lead.stuck _
      | with_reducible exact Lead.unsupported _
      | with_reducible exact Lead.goPanic _
      | with_reducible refine Lead.bind ?_ (fun _ => ?_)
      | with_reducible refine Lead.map ?_
      | with_reducible refine Lead.iteH (fun _ => ?_) (fun _ => ?_)
      | split
      | dsimp only

theorem Lead.intDiv (h : Tab V) (o : BinOp) (k : IntKind) (x y : Int) : Lead V (Op.intDiv o k x y) := by
    unfold Op.intDiv
    repeat' first
      | (with_reducible refine Lead.getObjH h _ ?gk_ (.inr ?gd_) (fun _ _ h => ?_); (case gk_ => intros; rfl); (case gd_ => intro w_; refine ⟨_, _, rfl, ?_⟩; simp [Soft]))
      | (with_reducible refine Lead.forInArray _ ?_ _ _; intro _ _)
      | (with_reducible refine Lead.forInRange _ ?_ _ _; intro _ _)
      | (with_reducible refine Lead.forInList _ ?_ _ _; intro _ _)
      | (with_reducible refine Lead.mapArray _ ?_ _; intro _)
      | (with_reducible refine Lead.foldlM _ ?_ _ _; intro _ _)
      | with_reducible assumption
      | with_reducible exact Lead.pure _
      | with_reducible exact Lead.stuck _
      | with_reducible exact Lead.unsupported _
      | with_reducible exact Lead.goPanic _
      | with_reducible exact Lead.runtimePanic h _
      | with_reducible refine Lead.bind ?_ (fun _ => ?_)
      | with_reducible refine Lead.map ?_
      | with_reducible refine Lead.iteH (fun _ => ?_) (fun _ => ?_)
      | split
      | dsimp only

theorem Lead.intBits (h : Tab V) (o : BinOp) (k : IntKind) (x y : Int) : Lead V (Op.intBits o k x y) := by
    unfold Op.intBits
    repeat' first
      | (with_reducible refine Lead.getObjH h _ ?gk_ (.inr ?gd_) (fun _ _ h => ?_); (case gk_ => intros; rfl); (case gd_ => intro w_; refine ⟨_, _, rfl, ?_⟩; simp [Soft]))
      | (with_reducible refine Lead.forInArray _ ?_ _ _; intro _ _)
      | (with_reducible refine Lead.forInRange _ ?_ _ _; intro _ _)
      | (with_reducible refine Lead.forInList _ ?_ _ _; intro _ _)
      | (with_reducible refine Lead.mapArray _ ?_ _; intro _)
      | (with_reducible refine Lead.foldlM _ ?_ _ _; intro _ _)
      | with_reducible assumption
      | with_reducible exact Lead.pure _
      | with_reducible exact Lead.stuck _
      | with_reducible exact Lead.unsupported _
      | with_reducible exact Lead.goPanic _
      | with_reducible refine Lead.bind ?_ (fun _ => ?_)
      | with_reducible refine Lead.map ?_
      | with_reducible refine Lead.iteH (fun _ => ?_) (fun _ => ?_)
      | split
      | dsimp only

theorem Lead.shift (h : Tab V) (o : BinOp) (k : IntKind) (x : Int) (j : IntKind) (y : Int) : Lead V (Op.shift o k x j y) := by
    unfold Op.shift
    repeat' first
      | (with_reducible refine Lead.getObjH h _ ?gk_ (.inr ?gd_) (fun _ _ h => ?_); (case gk_ => intros; rfl); (case gd_ => intro w_; refine ⟨_, _, rfl, ?_⟩; simp [Soft]))
      | (with_reducible refine Lead.forInArray _ ?_ _ _; intro _ _)
      | (with_reducible refine Lead.forInRange _ ?_ _ _; intro _ _)
      | (with_reducible refine Lead.forInList _ ?_ _ _; intro _ _)
      | (with_reducible refine Lead.mapArray _ ?_ _; intro _)
      | (with_reducible refine Lead.foldlM _ ?_ _ _; intro _ _)
      | with_reducible assumption
      | with_reducible exact Lead.pure _
      | with_reducible exact Lead.stuck _
      | with_reducible exact Lead.unsupported _
      | with_reducible exact Lead.goPanic _
      | with_reducible exact Lead.runtimePanic h _
      | with_reducible refine Lead.bind ?_ (fun _ => ?_)
      | with_reducible refine Lead.map ?_
      | with_reducible refine Lead.iteH (fun _ => ?_) (fun _ => ?_)
      | split
      | dsimp only

theorem Lead.intCmp (h : Tab V) (o : BinOp) (x y : Int) : Lead V (Op.intCmp o x y) := by
    unfold Op.intCmp
    repeat' first
      | (with_reducible refine Lead.getObjH h _ ?gk_ (.inr ?gd_) (fun _ _ h => ?_); (case gk_ => intros; rfl); (case gd_ => intro w_; refine ⟨_, _, rfl, ?_⟩; simp [Soft]))
      | (with_reducible refine Lead.forInArray _ ?_ _ _; intro _ _)
      | (with_reducible refine Lead.forInRange _ ?_ _ _; intro _ _)
      | (with_reducible refine Lead.forInList _ ?_ _ _; intro _ _)
      | (with_reducible refine Lead.mapArray _ ?_ _; intro _)
      | (with_reducible refine Lead.foldlM _ ?_ _ _; intro _ _)
      | with_reducible assumption
      | with_reducible exact Lead.pure _
      | with_reducible exact Lead.stuck _
      | with_reducible exact Lead.unsupported _
      | with_reducible exact Lead.goPanic _
      | with_reducible refine Lead.bind ?_ (fun _ => ?_)
      | with_reducible refine Lead.map ?_
      | with_reducible refine Lead.iteH (fun _ => ?_) (fun _ => ?_)
      | split
      | dsimp only

theorem Lead.stringOp (h : Tab V) (o : BinOp) (x y : ByteArray) : Lead V (Op.stringOp o x y) := by
    unfold Op.stringOp
    repeat' first
      | (with_reducible refine Lead.getObjH h _ ?gk_ (.inr ?gd_) (fun _ _ h => ?_); (case gk_ => intros; rfl); (case gd_ => intro w_; refine ⟨_, _, rfl, ?_⟩; simp [Soft]))
      | (with_reducible refine Lead.forInArray _ ?_ _ _; intro _ _)
      | (with_reducible refine Lead.forInRange _ ?_ _ _; intro _ _)
      | (with_reducible refine Lead.forInList _ ?_ _ _; intro _ _)
      | (with_reducible refine Lead.mapArray _ ?_ _; intro _)
      | (with_reducible refine Lead.foldlM _ ?_ _ _; intro _ _)
      | with_reducible assumption
      | with_reducible exact Lead.pure _
      | with_reducible exact Lead.stuck _
      | with_reducible exact Lead.unsupported _
      | with_reducible exact Lead.goPanic _
      | with_reducible refine Lead.bind ?_ (fun _ => ?_)
      | with_reducible refine Lead.map ?_
      | with_reducible refine Lead.iteH (fun _ => ?_) (fun _ => ?_)
      | split
      | dsimp only

theorem Lead.unary (h : Tab V) (o : UnOp) (x : Value) : Lead V (Op.unary o x) := by
    unfold Op.unary
    repeat' first
      | (with_reducible refine Lead.getObjH h _ ?gk_ (.inr ?gd_) (fun _ _ h => ?_); (case gk_ => intros; rfl); (case gd_ => intro w_; refine ⟨_, _, rfl, ?_⟩; simp [Soft]))
      | (with_reducible refine Lead.forInArray _ ?_ _ _; intro _ _)
      | (with_reducible refine Lead.forInRange _ ?_ _ _; intro _ _)
      | (with_reducible refine Lead.forInList _ ?_ _ _; intro _ _)
      | (with_reducible refine Lead.mapArray _ ?_ _; intro _)
      | (with_reducible refine Lead.foldlM _ ?_ _ _; intro _ _)
      | with_reducible assumption
      | with_reducible exact Lead.pure _
      | with_reducible exact Lead.stuck _
      | with_reducible exact Lead.unsupported _
      | with_reducible exact Lead.goPanic _
      | with_reducible exact Lead.intArith h _ _ _ _
      | with_reducible exact Lead.intBits h _ _ _ _
      | with_reducible refine Lead.bind ?_ (fun _ => ?_)
      | with_reducible refine Lead.map ?_
      | with_reducible refine Lead.iteH (fun _ => ?_) (fun _ => ?_)
      | split
      | dsimp only

theorem Lead.len_ (h : Tab V) (a : Array TypeId) (t : TypeId) (x : Array Value) : Lead V (Builtin.len_ a t x) := by
    unfold Builtin.len_
    repeat' first
      | (with_reducible refine Lead.getObjH h _ ?gk_ (.inr ?gd_) (fun _ _ h => ?_); (case gk_ => intros; rfl); (case gd_ => intro w_; refine ⟨_, _, rfl, ?_⟩; simp [Soft]))
      | (with_reducible refine Lead.forInArray _ ?_ _ _; intro _ _)
      | (with_reducible refine Lead.forInRange _ ?_ _ _; intro _ _)
      | (with_reducible refine Lead.forInList _ ?_ _ _; intro _ _)
      | (with_reducible refine Lead.mapArray _ ?_ _; intro _)
      | (with_reducible refine Lead.foldlM _ ?_ _ _; intro _ _)
      | with_reducible assumption
      | with_reducible exact Lead.pure _
      | with_reducible exact Lead.stuck _
      | with_reducible exact Lead.unsupported _
      | with_reducible exact Lead.goPanic _
      | with_reducible exact Lead.underlying h _
      | with_reducible exact Lead.slice h _ _ _ _ _
      | with_reducible refine Lead.bind ?_ (fun _ => ?_)
      | with_reducible refine Lead.map ?_
      | with_reducible refine Lead.iteH (fun _ => ?_) (fun _ => ?_)
      | split
      | dsimp only

theorem Lead.cap_ (h : Tab V) (a : Array TypeId) (t : TypeId) (x : Array Value) : Lead V (Builtin.cap_ a t x) := by
    unfold Builtin.cap_
    repeat' first
      | (with_reducible refine Lead.getObjH h _ ?gk_ (.inr ?gd_) (fun _ _ h => ?_); (case gk_ => intros; rfl); (case gd_ => intro w_; refine ⟨_, _, rfl, ?_⟩; simp [Soft]))
      | (with_reducible refine Lead.forInArray _ ?_ _ _; intro _ _)
      | (with_reducible refine Lead.forInRange _ ?_ _ _; intro _ _)
      | (with_reducible refine Lead.forInList _ ?_ _ _; intro _ _)
      | (with_reducible refine Lead.mapArray _ ?_ _; intro _)
      | (with_reducible refine Lead.foldlM _ ?_ _ _; intro _ _)
      | with_reducible assumption
      | with_reducible exact Lead.pure _
      | with_reducible exact Lead.stuck _
      | with_reducible exact Lead.unsupported _
      | with_reducible exact Lead.goPanic _
      | with_reducible exact Lead.underlying h _
      | with_reducible exact Lead.slice h _ _ _ _ _
      | with_reducible refine Lead.bind ?_ (fun _ => ?_)
      | with_reducible refine Lead.map ?_
      | with_reducible refine Lead.iteH (fun _ => ?_) (fun _ => ?_)
      | split
      | dsimp only

theorem Lead.lenOf (h : Tab V) (x : Value) : Lead V (Builtin.lenOf x) := by
    unfold Builtin.lenOf
    repeat' first
      | (with_reducible refine Lead.getObjH h _ ?gk_ (.inr ?gd_) (fun _ _ h => ?_); (case gk_ => intros; rfl); (case gd_ => intro w_; refine ⟨_, _, rfl, ?_⟩; simp [Soft]))
      | (with_reducible refine Lead.forInArray _ ?_ _ _; intro _ _)
      | (with_reducible refine Lead.forInRange _ ?_ _ _; intro _ _)
      | (with_reducible refine Lead.forInList _ ?_ _ _; intro _ _)
      | (with_reducible refine Lead.mapArray _ ?_ _; intro _)
      | (with_reducible refine Lead.foldlM _ ?_ _ _; intro _ _)
      | with_reducible assumption
      | with_reducible exact Lead.pure _
      | with_reducible exact Lead.stuck _
      | with_reducible exact Lead.unsupported _
      | with_reducible exact Lead.goPanic _
      | with_reducible exact Lead.slice h _ _ _ _ _
      | with_reducible refine Lead.bind ?_ (fun _ => ?_)
      | with_reducible refine Lead.map ?_
      | with_reducible refine Lead.iteH (fun _ => ?_) (fun _ => ?_)
      | split
      | dsimp only

theorem Lead.firstCells (h : Tab V) (s n : Nat) (x : Value) : Lead V (Builtin.firstCells s n x) := by
    unfold Builtin.firstCells
    repeat' first
      | (with_reducible refine Lead.getObjH h _ ?gk_ (.inr ?gd_) (fun _ _ h => ?_); (case gk_ => intros; rfl); (case gd_ => intro w_; refine ⟨_, _, rfl, ?_⟩; simp [Soft]))
      | (with_reducible refine Lead.forInArray _ ?_ _ _; intro _ _)
      | (with_reducible refine Lead.forInRange _ ?_ _ _; intro _ _)
      | (with_reducible refine Lead.forInList _ ?_ _ _; intro _ _)
      | (with_reducible refine Lead.mapArray _ ?_ _; intro _)
      | (with_reducible refine Lead.foldlM _ ?_ _ _; intro _ _)
      | with_reducible assumption
      | with_reducible exact Lead.pure _
      | with_reducible exact Lead.stuck _
      | with_reducible exact Lead.unsupported _
      | with_reducible exact Lead.goPanic _
      | with_reducible exact Lead.loadCells _ _
      | with_reducible exact Lead.slice h _ _ _ _ _
      | with_reducible exact Lead.extract h _ _
      | with_reducible refine Lead.bind ?_ (fun _ => ?_)
      | with_reducible refine Lead.map ?_
      | with_reducible refine Lead.iteH (fun _ => ?_) (fun _ => ?_)
      | split
      | dsimp only

theorem Lead.copy_ (h : Tab V) (a : Array TypeId) (t : TypeId) (x : Array Value) : Lead V (Builtin.copy_ a t x) := by
    unfold Builtin.copy_
    repeat' first
      | (with_reducible refine Lead.getObjH h _ ?gk_ (.inr ?gd_) (fun _ _ h => ?_); (case gk_ => intros; rfl); (case gd_ => intro w_; refine ⟨_, _, rfl, ?_⟩; simp [Soft]))
      | (with_reducible refine Lead.forInArray _ ?_ _ _; intro _ _)
      | (with_reducible refine Lead.forInRange _ ?_ _ _; intro _ _)
      | (with_reducible refine Lead.forInList _ ?_ _ _; intro _ _)
      | (with_reducible refine Lead.mapArray _ ?_ _; intro _)
      | (with_reducible refine Lead.foldlM _ ?_ _ _; intro _ _)
      | with_reducible assumption
      | with_reducible exact Lead.pure _
      | with_reducible exact Lead.stuck _
      | with_reducible exact Lead.unsupported _
      | with_reducible exact Lead.goPanic _
      | with_reducible exact Lead.underlying h _
      | with_reducible exact Lead.sizeOf h _
      | with_reducible exact Lead.storeCells _ _ _
      | with_reducible exact Lead.slice h _ _ _ _ _
      | with_reducible exact Lead.lenOf h _
      | with_reducible exact Lead.firstCells h _ _ _
      | with_reducible refine Lead.bind ?_ (fun _ => ?_)
      | with_reducible refine Lead.map ?_
      | with_reducible refine Lead.iteH (fun _ => ?_) (fun _ => ?_)
      | split
      | dsimp only

theorem Lead.checkKey (h : Tab V) : ∀ (n : Nat) (e : Bool) (t : TypeId) (v : Value), Lead V (Instr.checkKey e n t v) := by
    intro n
    induction n with
    | zero => intros; exact Lead.soft _
    | succ n ih =>
    intros
    unfold Instr.checkKey
    repeat' first
      | (with_reducible refine Lead.getObjH h _ ?gk_ (.inr ?gd_) (fun _ _ h => ?_); (case gk_ => intros; rfl); (case gd_ => intro w_; refine ⟨_, _, rfl, ?_⟩; simp [Soft]))
      | (with_reducible refine Lead.forInArray _ ?_ _ _; intro _ _)
      | (with_reducible refine Lead.forInRange _ ?_ _ _; intro _ _)
      | (with_reducible refine Lead.forInList _ ?_ _ _; intro _ _)
      | (with_reducible refine Lead.mapArray _ ?_ _; intro _)
      | (with_reducible refine Lead.foldlM _ ?_ _ _; intro _ _)
      | with_reducible assumption
      | with_reducible exact Lead.pure _
      | with_reducible exact Lead.stuck _
      | with_reducible exact Lead.unsupported _
      | with_reducible exact Lead.goPanic _
      | with_reducible exact Lead.runtimePanic h _
      | with_reducible exact Lead.underlying h _
      | with_reducible exact Lead.typeInfo h _
      | with_reducible exact Lead.sizeOf h _
      | with_reducible exact Lead.part h _ _ _
      | with_reducible exact Lead.typeStr h _
      | with_reducible exact Lead.typeStr h _
      | with_reducible apply ih
      | with_reducible refine Lead.bind ?_ (fun _ => ?_)
      | with_reducible refine Lead.map ?_
      | with_reducible refine Lead.iteH (fun _ => ?_) (fun _ => ?_)
      | split
      | dsimp only

theorem Lead.bytesToString (h : Tab V) (x : Value) : Lead V (Conv.bytesToString x) := by
    unfold Conv.bytesToString
    repeat' first
      | (with_reducible refine Lead.getObjH h _ ?gk_ (.inr ?gd_) (fun _ _ h => ?_); (case gk_ => intros; rfl); (case gd_ => intro w_; refine ⟨_, _, rfl, ?_⟩; simp [Soft]))
      | (with_reducible refine Lead.forInArray _ ?_ _ _; intro _ _)
      | (with_reducible refine Lead.forInRange _ ?_ _ _; intro _ _)
      | (with_reducible refine Lead.forInList _ ?_ _ _; intro _ _)
      | (with_reducible refine Lead.mapArray _ ?_ _; intro _)
      | (with_reducible refine Lead.foldlM _ ?_ _ _; intro _ _)
      | with_reducible assumption
      | with_reducible exact Lead.pure _
      | with_reducible exact Lead.stuck _
      | with_reducible exact Lead.unsupported _
      | with_reducible exact Lead.goPanic _
      | with_reducible exact Lead.loadCells _ _
      | with_reducible exact Lead.slice h _ _ _ _ _
      | with_reducible refine Lead.bind ?_ (fun _ => ?_)
      | with_reducible refine Lead.map ?_
      | with_reducible refine Lead.iteH (fun _ => ?_) (fun _ => ?_)
      | split
      | dsimp only

theorem Lead.equalIn (h : Tab V) : ∀ (n : Nat) (t : TypeId) (x y : Value), Lead V (Op.equalIn n t x y) := by
    intro n
    induction n with
    | zero => intros; exact Lead.soft _
    | succ n ih =>
    intros
    unfold Op.equalIn
    repeat' first
      | (with_reducible refine Lead.program ?eq_ ?_; (case eq_ => simp only [tables_holdsPacked h.tables, tables_stoodInHeld h.tables, tables_depth h.tables, tables_globals h.tables, tables_eqGuard h.tables, tables_info h.tables]))
      | (refine Lead.byteOfG h _ ?_; simp_all; done)
      | (refine Lead.byteOfG h _ ?_; simp_all; omega)
      | (with_reducible refine Lead.getObjH h _ ?gk_ (.inr ?gd_) (fun _ _ h => ?_); (case gk_ => intros; rfl); (case gd_ => intro w_; refine ⟨_, _, rfl, ?_⟩; simp [Soft]))
      | (with_reducible refine Lead.forInArray _ ?_ _ _; intro _ _)
      | (with_reducible refine Lead.forInRange _ ?_ _ _; intro _ _)
      | (with_reducible refine Lead.forInList _ ?_ _ _; intro _ _)
      | (with_reducible refine Lead.mapArray _ ?_ _; intro _)
      | (with_reducible refine Lead.foldlM _ ?_ _ _; intro _ _)
      | with_reducible assumption
      | with_reducible exact Lead.pure _
      | with_reducible exact Lead.stuck _
      | with_reducible exact Lead.unsupported _
      | with_reducible exact Lead.goPanic _

      | with_reducible exact Lead.runtimePanic h _
      | with_reducible exact Lead.boundsPanic h _ _ _ _
      | with_reducible exact Lead.underlying h _
      | with_reducible exact Lead.typeInfo h _
      | with_reducible exact Lead.zeroValue h _
      | with_reducible exact Lead.sizeOf h _
      | with_reducible exact Lead.isAgg h _
      | with_reducible exact Lead.loadCells _ _
      | with_reducible exact Lead.storeCells _ _ _
      | with_reducible exact Lead.loadVar h _ _
      | with_reducible exact Lead.storeVar h _ _ _
      | with_reducible exact Lead.newRow _ _
      | with_reducible exact Lead.newVar _ _
      | with_reducible exact Lead.elemOf h _
      | with_reducible exact Lead.part h _ _ _
      | with_reducible exact Lead.asIntOf _
      | with_reducible exact Lead.asInt _
      | with_reducible exact Lead.asBool _
      | with_reducible exact Lead.asString _
      | with_reducible exact Lead.asAgg _
      | with_reducible exact Lead.asAddr h _
      | with_reducible exact Lead.sureAddr _
      | with_reducible exact Lead.load _ _
      | with_reducible exact Lead.store _ _ _
      | with_reducible exact Lead.choose _
      | with_reducible exact Lead.frozen _
      | with_reducible exact Lead.askRoom _
      | with_reducible exact Lead.typeStr h _
      | with_reducible exact Lead.loadAt h _ _
      | with_reducible exact Lead.storeAt h _ _ _
      | with_reducible exact Lead.alloc h _ _ _
      | with_reducible exact Lead.box h _ _
      | with_reducible exact Lead.field h _ _ _
      | with_reducible exact Lead.index h _ _ _
      | with_reducible exact Lead.indexAt h _ _ _
      | with_reducible exact Lead.sliceBound h _ _ _
      | with_reducible exact Lead.sliceBounds h _ _ _ _ _ _
      | with_reducible exact Lead.slice h _ _ _ _ _
      | with_reducible exact Lead.sliceAt h _ _ _ _ _
      | with_reducible exact Lead.arrayAt h _ _
      | with_reducible exact Lead.makeInterface h _ _
      | with_reducible exact Lead.makeFunc h _ _ _
      | with_reducible exact Lead.extract h _ _
      | with_reducible exact Lead.buildSlice h _ _ _
      | with_reducible exact Lead.makeSlice h _ _ _
      | with_reducible exact Lead.intArith h _ _ _ _
      | with_reducible exact Lead.intDiv h _ _ _ _
      | with_reducible exact Lead.intBits h _ _ _ _
      | with_reducible exact Lead.shift h _ _ _ _ _
      | with_reducible exact Lead.intCmp h _ _ _
      | with_reducible exact Lead.stringOp h _ _ _
      | with_reducible exact Lead.unary h _ _
      | with_reducible exact Lead.len_ h _ _ _
      | with_reducible exact Lead.cap_ h _ _ _
      | with_reducible exact Lead.lenOf h _
      | with_reducible exact Lead.firstCells h _ _ _
      | with_reducible exact Lead.copy_ h _ _ _
      | with_reducible exact Lead.checkKey h _ _ _ _
      | with_reducible exact Lead.bytesToString h _
      | with_reducible exact Lead.behindNumber _
      | with_reducible exact Lead.sameAddr _ _
      | with_reducible exact Lead.samePointer _ _
      | with_reducible exact Lead.noView _
      | with_reducible exact Lead.viewAt _
      | with_reducible exact Lead.numberAt _
      | with_reducible exact Lead.typeStr h _
      | with_reducible apply ih
      | with_reducible refine Lead.bind ?_ (fun _ => ?_)
      | with_reducible refine Lead.map ?_
      | with_reducible refine Lead.iteH (fun _ => ?_) (fun _ => ?_)
      | split
      | dsimp only

theorem Lead.eqGuardIn (h : Tab V) : ∀ (n : Nat) (t : TypeId) (x y : Value), Lead V (Op.eqGuardIn n t x y) := by
    intro n
    induction n with
    | zero => intros; exact Lead.soft _
    | succ n ih =>
    intros
    unfold Op.eqGuardIn
    repeat' first
      | (with_reducible refine Lead.getObjH h _ ?gk_ (.inr ?gd_) (fun _ _ h => ?_); (case gk_ => intros; rfl); (case gd_ => intro w_; refine ⟨_, _, rfl, ?_⟩; simp [Soft]))
      | (with_reducible refine Lead.forInArray _ ?_ _ _; intro _ _)
      | (with_reducible refine Lead.forInRange _ ?_ _ _; intro _ _)
      | (with_reducible refine Lead.forInList _ ?_ _ _; intro _ _)
      | (with_reducible refine Lead.mapArray _ ?_ _; intro _)
      | (with_reducible refine Lead.foldlM _ ?_ _ _; intro _ _)
      | with_reducible assumption
      | with_reducible exact Lead.pure _
      | with_reducible exact Lead.stuck _
      | with_reducible exact Lead.unsupported _
      | with_reducible exact Lead.goPanic _
      | with_reducible exact Lead.underlying h _
      | with_reducible exact Lead.sizeOf h _
      | with_reducible exact Lead.part h _ _ _
      | with_reducible apply ih
      | with_reducible refine Lead.bind ?_ (fun _ => ?_)
      | with_reducible refine Lead.map ?_
      | with_reducible refine Lead.iteH (fun _ => ?_) (fun _ => ?_)
      | split
      | dsimp only

theorem Lead.equal (h : Tab V) (t : TypeId) (x y : Value) : Lead V (Op.equal t x y) := by
    unfold Op.equal
    repeat' first
      | (with_reducible refine Lead.getObjH h _ ?gk_ (.inr ?gd_) (fun _ _ h => ?_); (case gk_ => intros; rfl); (case gd_ => intro w_; refine ⟨_, _, rfl, ?_⟩; simp [Soft]))
      | (with_reducible refine Lead.forInArray _ ?_ _ _; intro _ _)
      | (with_reducible refine Lead.forInRange _ ?_ _ _; intro _ _)
      | (with_reducible refine Lead.forInList _ ?_ _ _; intro _ _)
      | (with_reducible refine Lead.mapArray _ ?_ _; intro _)
      | (with_reducible refine Lead.foldlM _ ?_ _ _; intro _ _)
      | with_reducible assumption
      | with_reducible exact Lead.pure _
      | with_reducible exact Lead.stuck _
      | with_reducible exact Lead.unsupported _
      | with_reducible exact Lead.goPanic _
      | with_reducible exact Lead.equalIn h _ _ _ _
      | with_reducible refine Lead.bind ?_ (fun _ => ?_)
      | with_reducible refine Lead.map ?_
      | with_reducible refine Lead.iteH (fun _ => ?_) (fun _ => ?_)
      | split
      | dsimp only

theorem Lead.eqGuard (h : Tab V) (o : BinOp) (t : TypeId) (x y : Operand) (a b : Value) : Lead V (eqGuard o t x y a b) := by
    unfold Go.eqGuard
    repeat' first
      | (with_reducible refine Lead.program ?eq_ ?_; (case eq_ => simp only [tables_holdsPacked h.tables, tables_stoodInHeld h.tables, tables_depth h.tables, tables_globals h.tables, tables_eqGuard h.tables, tables_info h.tables]))
      | (with_reducible refine Lead.getObjH h _ ?gk_ (.inr ?gd_) (fun _ _ h => ?_); (case gk_ => intros; rfl); (case gd_ => intro w_; refine ⟨_, _, rfl, ?_⟩; simp [Soft]))
      | (with_reducible refine Lead.forInArray _ ?_ _ _; intro _ _)
      | (with_reducible refine Lead.forInRange _ ?_ _ _; intro _ _)
      | (with_reducible refine Lead.forInList _ ?_ _ _; intro _ _)
      | (with_reducible refine Lead.mapArray _ ?_ _; intro _)
      | (with_reducible refine Lead.foldlM _ ?_ _ _; intro _ _)
      | with_reducible assumption
      | with_reducible exact Lead.pure _
      | with_reducible exact Lead.stuck _
      | with_reducible exact Lead.unsupported _
      | with_reducible exact Lead.goPanic _
      | with_reducible exact Lead.part h _ _ _
      | with_reducible exact Lead.eqGuardIn h _ _ _ _
      | with_reducible refine Lead.bind ?_ (fun _ => ?_)
      | with_reducible refine Lead.map ?_
      | with_reducible refine Lead.iteH (fun _ => ?_) (fun _ => ?_)
      | split
      | dsimp only

theorem Lead.floatArith (h : Tab V) (o : BinOp) (k : FloatKind) (x y : Nat) : Lead V (Op.floatArith o k x y) := by
    unfold Op.floatArith
    repeat' first
      | (with_reducible refine Lead.getObjH h _ ?gk_ (.inr ?gd_) (fun _ _ h => ?_); (case gk_ => intros; rfl); (case gd_ => intro w_; refine ⟨_, _, rfl, ?_⟩; simp [Soft]))
      | (with_reducible refine Lead.forInArray _ ?_ _ _; intro _ _)
      | (with_reducible refine Lead.forInRange _ ?_ _ _; intro _ _)
      | (with_reducible refine Lead.forInList _ ?_ _ _; intro _ _)
      | (with_reducible refine Lead.mapArray _ ?_ _; intro _)
      | (with_reducible refine Lead.foldlM _ ?_ _ _; intro _ _)
      | with_reducible assumption
      | with_reducible exact Lead.pure _
      | with_reducible exact Lead.stuck _
      | with_reducible exact Lead.unsupported _
      | with_reducible exact Lead.goPanic _
      | with_reducible exact Lead.choose _
      | with_reducible refine Lead.bind ?_ (fun _ => ?_)
      | with_reducible refine Lead.map ?_
      | with_reducible refine Lead.iteH (fun _ => ?_) (fun _ => ?_)
      | split
      | dsimp only

theorem Lead.floatCmp (h : Tab V) (o : BinOp) (k : FloatKind) (x y : Nat) : Lead V (Op.floatCmp o k x y) := by
    unfold Op.floatCmp
    repeat' first
      | (with_reducible refine Lead.getObjH h _ ?gk_ (.inr ?gd_) (fun _ _ h => ?_); (case gk_ => intros; rfl); (case gd_ => intro w_; refine ⟨_, _, rfl, ?_⟩; simp [Soft]))
      | (with_reducible refine Lead.forInArray _ ?_ _ _; intro _ _)
      | (with_reducible refine Lead.forInRange _ ?_ _ _; intro _ _)
      | (with_reducible refine Lead.forInList _ ?_ _ _; intro _ _)
      | (with_reducible refine Lead.mapArray _ ?_ _; intro _)
      | (with_reducible refine Lead.foldlM _ ?_ _ _; intro _ _)
      | with_reducible assumption
      | with_reducible exact Lead.pure _
      | with_reducible exact Lead.stuck _
      | with_reducible exact Lead.unsupported _
      | with_reducible exact Lead.goPanic _
      | with_reducible refine Lead.bind ?_ (fun _ => ?_)
      | with_reducible refine Lead.map ?_
      | with_reducible refine Lead.iteH (fun _ => ?_) (fun _ => ?_)
      | split
      | dsimp only

theorem Lead.floatToFloat (h : Tab V) (k : FloatKind) (x : Nat) (d : FloatKind) : Lead V (Conv.floatToFloat k x d) := by
    unfold Conv.floatToFloat
    repeat' first
      | (with_reducible refine Lead.getObjH h _ ?gk_ (.inr ?gd_) (fun _ _ h => ?_); (case gk_ => intros; rfl); (case gd_ => intro w_; refine ⟨_, _, rfl, ?_⟩; simp [Soft]))
      | (with_reducible refine Lead.forInArray _ ?_ _ _; intro _ _)
      | (with_reducible refine Lead.forInRange _ ?_ _ _; intro _ _)
      | (with_reducible refine Lead.forInList _ ?_ _ _; intro _ _)
      | (with_reducible refine Lead.mapArray _ ?_ _; intro _)
      | (with_reducible refine Lead.foldlM _ ?_ _ _; intro _ _)
      | with_reducible assumption
      | with_reducible exact Lead.pure _
      | with_reducible exact Lead.stuck _
      | with_reducible exact Lead.unsupported _
      | with_reducible exact Lead.goPanic _
      | with_reducible exact Lead.choose _
      | with_reducible refine Lead.bind ?_ (fun _ => ?_)
      | with_reducible refine Lead.map ?_
      | with_reducible refine Lead.iteH (fun _ => ?_) (fun _ => ?_)
      | split
      | dsimp only

theorem Lead.floatToInt (h : Tab V) (k : FloatKind) (x : Nat) (d : IntKind) : Lead V (Conv.floatToInt k x d) := by
    unfold Conv.floatToInt
    repeat' first
      | (with_reducible refine Lead.getObjH h _ ?gk_ (.inr ?gd_) (fun _ _ h => ?_); (case gk_ => intros; rfl); (case gd_ => intro w_; refine ⟨_, _, rfl, ?_⟩; simp [Soft]))
      | (with_reducible refine Lead.forInArray _ ?_ _ _; intro _ _)
      | (with_reducible refine Lead.forInRange _ ?_ _ _; intro _ _)
      | (with_reducible refine Lead.forInList _ ?_ _ _; intro _ _)
      | (with_reducible refine Lead.mapArray _ ?_ _; intro _)
      | (with_reducible refine Lead.foldlM _ ?_ _ _; intro _ _)
      | with_reducible assumption
      | with_reducible exact Lead.pure _
      | with_reducible exact Lead.stuck _
      | with_reducible exact Lead.unsupported _
      | with_reducible exact Lead.goPanic _
      | with_reducible exact Lead.choose _
      | with_reducible refine Lead.bind ?_ (fun _ => ?_)
      | with_reducible refine Lead.map ?_
      | with_reducible refine Lead.iteH (fun _ => ?_) (fun _ => ?_)
      | split
      | dsimp only

theorem Lead.cArith (h : Tab V) (o : BinOp) (k : FloatKind) (x y : Nat) : Lead V (Op.Complex.arith o k x y) := by
    unfold Op.Complex.arith
    repeat' first
      | (with_reducible refine Lead.getObjH h _ ?gk_ (.inr ?gd_) (fun _ _ h => ?_); (case gk_ => intros; rfl); (case gd_ => intro w_; refine ⟨_, _, rfl, ?_⟩; simp [Soft]))
      | (with_reducible refine Lead.forInArray _ ?_ _ _; intro _ _)
      | (with_reducible refine Lead.forInRange _ ?_ _ _; intro _ _)
      | (with_reducible refine Lead.forInList _ ?_ _ _; intro _ _)
      | (with_reducible refine Lead.mapArray _ ?_ _; intro _)
      | (with_reducible refine Lead.foldlM _ ?_ _ _; intro _ _)
      | with_reducible assumption
      | with_reducible exact Lead.pure _
      | with_reducible exact Lead.stuck _
      | with_reducible exact Lead.unsupported _
      | with_reducible exact Lead.goPanic _
      | with_reducible exact Lead.floatArith h _ _ _ _
      | with_reducible refine Lead.bind ?_ (fun _ => ?_)
      | with_reducible refine Lead.map ?_
      | with_reducible refine Lead.iteH (fun _ => ?_) (fun _ => ?_)
      | split
      | dsimp only

theorem Lead.cCmp (h : Tab V) (o : BinOp) (k : FloatKind) (x y : Nat) : Lead V (Op.Complex.cmp o k x y) := by
    unfold Op.Complex.cmp
    repeat' first
      | (with_reducible refine Lead.getObjH h _ ?gk_ (.inr ?gd_) (fun _ _ h => ?_); (case gk_ => intros; rfl); (case gd_ => intro w_; refine ⟨_, _, rfl, ?_⟩; simp [Soft]))
      | (with_reducible refine Lead.forInArray _ ?_ _ _; intro _ _)
      | (with_reducible refine Lead.forInRange _ ?_ _ _; intro _ _)
      | (with_reducible refine Lead.forInList _ ?_ _ _; intro _ _)
      | (with_reducible refine Lead.mapArray _ ?_ _; intro _)
      | (with_reducible refine Lead.foldlM _ ?_ _ _; intro _ _)
      | with_reducible assumption
      | with_reducible exact Lead.pure _
      | with_reducible exact Lead.stuck _
      | with_reducible exact Lead.unsupported _
      | with_reducible exact Lead.goPanic _
      | with_reducible exact Lead.asBool _
      | with_reducible exact Lead.floatCmp h _ _ _ _
      | with_reducible refine Lead.bind ?_ (fun _ => ?_)
      | with_reducible refine Lead.map ?_
      | with_reducible refine Lead.iteH (fun _ => ?_) (fun _ => ?_)
      | split
      | dsimp only

theorem Lead.cConv (h : Tab V) (k : FloatKind) (x : Nat) (d : FloatKind) : Lead V (Op.Complex.conv k x d) := by
    unfold Op.Complex.conv
    repeat' first
      | (with_reducible refine Lead.getObjH h _ ?gk_ (.inr ?gd_) (fun _ _ h => ?_); (case gk_ => intros; rfl); (case gd_ => intro w_; refine ⟨_, _, rfl, ?_⟩; simp [Soft]))
      | (with_reducible refine Lead.forInArray _ ?_ _ _; intro _ _)
      | (with_reducible refine Lead.forInRange _ ?_ _ _; intro _ _)
      | (with_reducible refine Lead.forInList _ ?_ _ _; intro _ _)
      | (with_reducible refine Lead.mapArray _ ?_ _; intro _)
      | (with_reducible refine Lead.foldlM _ ?_ _ _; intro _ _)
      | with_reducible assumption
      | with_reducible exact Lead.pure _
      | with_reducible exact Lead.stuck _
      | with_reducible exact Lead.unsupported _
      | with_reducible exact Lead.goPanic _
      | with_reducible exact Lead.floatToFloat h _ _ _
      | with_reducible refine Lead.bind ?_ (fun _ => ?_)
      | with_reducible refine Lead.map ?_
      | with_reducible refine Lead.iteH (fun _ => ?_) (fun _ => ?_)
      | split
      | dsimp only

theorem Lead.cadd (h : Tab V) (x y : Nat) : Lead V (Op.Complex.add x y) := by
    unfold Op.Complex.add
    repeat' first
      | (with_reducible refine Lead.program ?eq_ ?_; (case eq_ => simp only [tables_holdsPacked h.tables, tables_stoodInHeld h.tables, tables_depth h.tables, tables_globals h.tables, tables_eqGuard h.tables, tables_info h.tables]))
      | (refine Lead.byteOfG h _ ?_; simp_all; done)
      | (refine Lead.byteOfG h _ ?_; simp_all; omega)
      | (with_reducible refine Lead.getObjH h _ ?gk_ (.inr ?gd_) (fun _ _ h => ?_); (case gk_ => intros; rfl); (case gd_ => intro w_; refine ⟨_, _, rfl, ?_⟩; simp [Soft]))
      | (with_reducible refine Lead.forInArray _ ?_ _ _; intro _ _)
      | (with_reducible refine Lead.forInRange _ ?_ _ _; intro _ _)
      | (with_reducible refine Lead.forInList _ ?_ _ _; intro _ _)
      | (with_reducible refine Lead.mapArray _ ?_ _; intro _)
      | (with_reducible refine Lead.foldlM _ ?_ _ _; intro _ _)
      | with_reducible assumption
      | with_reducible exact Lead.pure _
      | with_reducible exact Lead.stuck _
      | with_reducible exact Lead.unsupported _
      | with_reducible exact Lead.goPanic _

      | with_reducible exact Lead.runtimePanic h _
      | with_reducible exact Lead.boundsPanic h _ _ _ _
      | with_reducible exact Lead.underlying h _
      | with_reducible exact Lead.typeInfo h _
      | with_reducible exact Lead.zeroValue h _
      | with_reducible exact Lead.sizeOf h _
      | with_reducible exact Lead.isAgg h _
      | with_reducible exact Lead.loadCells _ _
      | with_reducible exact Lead.storeCells _ _ _
      | with_reducible exact Lead.loadVar h _ _
      | with_reducible exact Lead.storeVar h _ _ _
      | with_reducible exact Lead.newRow _ _
      | with_reducible exact Lead.newVar _ _
      | with_reducible exact Lead.elemOf h _
      | with_reducible exact Lead.part h _ _ _
      | with_reducible exact Lead.asIntOf _
      | with_reducible exact Lead.asInt _
      | with_reducible exact Lead.asBool _
      | with_reducible exact Lead.asString _
      | with_reducible exact Lead.asAgg _
      | with_reducible exact Lead.asAddr h _
      | with_reducible exact Lead.sureAddr _
      | with_reducible exact Lead.load _ _
      | with_reducible exact Lead.store _ _ _
      | with_reducible exact Lead.choose _
      | with_reducible exact Lead.frozen _
      | with_reducible exact Lead.askRoom _
      | with_reducible exact Lead.typeStr h _
      | with_reducible exact Lead.loadAt h _ _
      | with_reducible exact Lead.storeAt h _ _ _
      | with_reducible exact Lead.alloc h _ _ _
      | with_reducible exact Lead.box h _ _
      | with_reducible exact Lead.field h _ _ _
      | with_reducible exact Lead.index h _ _ _
      | with_reducible exact Lead.indexAt h _ _ _
      | with_reducible exact Lead.sliceBound h _ _ _
      | with_reducible exact Lead.sliceBounds h _ _ _ _ _ _
      | with_reducible exact Lead.slice h _ _ _ _ _
      | with_reducible exact Lead.sliceAt h _ _ _ _ _
      | with_reducible exact Lead.arrayAt h _ _
      | with_reducible exact Lead.makeInterface h _ _
      | with_reducible exact Lead.makeFunc h _ _ _
      | with_reducible exact Lead.extract h _ _
      | with_reducible exact Lead.buildSlice h _ _ _
      | with_reducible exact Lead.makeSlice h _ _ _
      | with_reducible exact Lead.intArith h _ _ _ _
      | with_reducible exact Lead.intDiv h _ _ _ _
      | with_reducible exact Lead.intBits h _ _ _ _
      | with_reducible exact Lead.shift h _ _ _ _ _
      | with_reducible exact Lead.intCmp h _ _ _
      | with_reducible exact Lead.stringOp h _ _ _
      | with_reducible exact Lead.unary h _ _
      | with_reducible exact Lead.len_ h _ _ _
      | with_reducible exact Lead.cap_ h _ _ _
      | with_reducible exact Lead.lenOf h _
      | with_reducible exact Lead.firstCells h _ _ _
      | with_reducible exact Lead.copy_ h _ _ _
      | with_reducible exact Lead.checkKey h _ _ _ _
      | with_reducible exact Lead.bytesToString h _
      | with_reducible exact Lead.behindNumber _
      | with_reducible exact Lead.sameAddr _ _
      | with_reducible exact Lead.samePointer _ _
      | with_reducible exact Lead.noView _
      | with_reducible exact Lead.viewAt _
      | with_reducible exact Lead.numberAt _
      | with_reducible exact Lead.equalIn h _ _ _ _
      | with_reducible exact Lead.eqGuardIn h _ _ _ _
      | with_reducible exact Lead.equal h _ _ _
      | with_reducible exact Lead.eqGuard h _ _ _ _ _ _
      | with_reducible exact Lead.floatArith h _ _ _ _
      | with_reducible exact Lead.floatCmp h _ _ _ _
      | with_reducible exact Lead.floatToFloat h _ _ _
      | with_reducible exact Lead.floatToInt h _ _ _
      | with_reducible exact Lead.cArith h _ _ _ _
      | with_reducible exact Lead.cCmp h _ _ _ _
      | with_reducible exact Lead.cConv h _ _ _
      | with_reducible refine Lead.bind ?_ (fun _ => ?_)
      | with_reducible refine Lead.map ?_
      | with_reducible refine Lead.iteH (fun _ => ?_) (fun _ => ?_)
      | split
      | dsimp only

theorem Lead.csub (h : Tab V) (x y : Nat) : Lead V (Op.Complex.sub x y) := by
    unfold Op.Complex.sub
    repeat' first
      | (with_reducible refine Lead.program ?eq_ ?_; (case eq_ => simp only [tables_holdsPacked h.tables, tables_stoodInHeld h.tables, tables_depth h.tables, tables_globals h.tables, tables_eqGuard h.tables, tables_info h.tables]))
      | (refine Lead.byteOfG h _ ?_; simp_all; done)
      | (refine Lead.byteOfG h _ ?_; simp_all; omega)
      | (with_reducible refine Lead.getObjH h _ ?gk_ (.inr ?gd_) (fun _ _ h => ?_); (case gk_ => intros; rfl); (case gd_ => intro w_; refine ⟨_, _, rfl, ?_⟩; simp [Soft]))
      | (with_reducible refine Lead.forInArray _ ?_ _ _; intro _ _)
      | (with_reducible refine Lead.forInRange _ ?_ _ _; intro _ _)
      | (with_reducible refine Lead.forInList _ ?_ _ _; intro _ _)
      | (with_reducible refine Lead.mapArray _ ?_ _; intro _)
      | (with_reducible refine Lead.foldlM _ ?_ _ _; intro _ _)
      | with_reducible assumption
      | with_reducible exact Lead.pure _
      | with_reducible exact Lead.stuck _
      | with_reducible exact Lead.unsupported _
      | with_reducible exact Lead.goPanic _

      | with_reducible exact Lead.runtimePanic h _
      | with_reducible exact Lead.boundsPanic h _ _ _ _
      | with_reducible exact Lead.underlying h _
      | with_reducible exact Lead.typeInfo h _
      | with_reducible exact Lead.zeroValue h _
      | with_reducible exact Lead.sizeOf h _
      | with_reducible exact Lead.isAgg h _
      | with_reducible exact Lead.loadCells _ _
      | with_reducible exact Lead.storeCells _ _ _
      | with_reducible exact Lead.loadVar h _ _
      | with_reducible exact Lead.storeVar h _ _ _
      | with_reducible exact Lead.newRow _ _
      | with_reducible exact Lead.newVar _ _
      | with_reducible exact Lead.elemOf h _
      | with_reducible exact Lead.part h _ _ _
      | with_reducible exact Lead.asIntOf _
      | with_reducible exact Lead.asInt _
      | with_reducible exact Lead.asBool _
      | with_reducible exact Lead.asString _
      | with_reducible exact Lead.asAgg _
      | with_reducible exact Lead.asAddr h _
      | with_reducible exact Lead.sureAddr _
      | with_reducible exact Lead.load _ _
      | with_reducible exact Lead.store _ _ _
      | with_reducible exact Lead.choose _
      | with_reducible exact Lead.frozen _
      | with_reducible exact Lead.askRoom _
      | with_reducible exact Lead.typeStr h _
      | with_reducible exact Lead.loadAt h _ _
      | with_reducible exact Lead.storeAt h _ _ _
      | with_reducible exact Lead.alloc h _ _ _
      | with_reducible exact Lead.box h _ _
      | with_reducible exact Lead.field h _ _ _
      | with_reducible exact Lead.index h _ _ _
      | with_reducible exact Lead.indexAt h _ _ _
      | with_reducible exact Lead.sliceBound h _ _ _
      | with_reducible exact Lead.sliceBounds h _ _ _ _ _ _
      | with_reducible exact Lead.slice h _ _ _ _ _
      | with_reducible exact Lead.sliceAt h _ _ _ _ _
      | with_reducible exact Lead.arrayAt h _ _
      | with_reducible exact Lead.makeInterface h _ _
      | with_reducible exact Lead.makeFunc h _ _ _
      | with_reducible exact Lead.extract h _ _
      | with_reducible exact Lead.buildSlice h _ _ _
      | with_reducible exact Lead.makeSlice h _ _ _
      | with_reducible exact Lead.intArith h _ _ _ _
      | with_reducible exact Lead.intDiv h _ _ _ _
      | with_reducible exact Lead.intBits h _ _ _ _
      | with_reducible exact Lead.shift h _ _ _ _ _
      | with_reducible exact Lead.intCmp h _ _ _
      | with_reducible exact Lead.stringOp h _ _ _
      | with_reducible exact Lead.unary h _ _
      | with_reducible exact Lead.len_ h _ _ _
      | with_reducible exact Lead.cap_ h _ _ _
      | with_reducible exact Lead.lenOf h _
      | with_reducible exact Lead.firstCells h _ _ _
      | with_reducible exact Lead.copy_ h _ _ _
      | with_reducible exact Lead.checkKey h _ _ _ _
      | with_reducible exact Lead.bytesToString h _
      | with_reducible exact Lead.behindNumber _
      | with_reducible exact Lead.sameAddr _ _
      | with_reducible exact Lead.samePointer _ _
      | with_reducible exact Lead.noView _
      | with_reducible exact Lead.viewAt _
      | with_reducible exact Lead.numberAt _
      | with_reducible exact Lead.equalIn h _ _ _ _
      | with_reducible exact Lead.eqGuardIn h _ _ _ _
      | with_reducible exact Lead.equal h _ _ _
      | with_reducible exact Lead.eqGuard h _ _ _ _ _ _
      | with_reducible exact Lead.floatArith h _ _ _ _
      | with_reducible exact Lead.floatCmp h _ _ _ _
      | with_reducible exact Lead.floatToFloat h _ _ _
      | with_reducible exact Lead.floatToInt h _ _ _
      | with_reducible exact Lead.cArith h _ _ _ _
      | with_reducible exact Lead.cCmp h _ _ _ _
      | with_reducible exact Lead.cConv h _ _ _
      | with_reducible exact Lead.cadd h _ _
      | with_reducible refine Lead.bind ?_ (fun _ => ?_)
      | with_reducible refine Lead.map ?_
      | with_reducible refine Lead.iteH (fun _ => ?_) (fun _ => ?_)
      | split
      | dsimp only

theorem Lead.cmul (h : Tab V) (x y : Nat) : Lead V (Op.Complex.mul x y) := by
    unfold Op.Complex.mul
    repeat' first
      | (with_reducible refine Lead.program ?eq_ ?_; (case eq_ => simp only [tables_holdsPacked h.tables, tables_stoodInHeld h.tables, tables_depth h.tables, tables_globals h.tables, tables_eqGuard h.tables, tables_info h.tables]))
      | (refine Lead.byteOfG h _ ?_; simp_all; done)
      | (refine Lead.byteOfG h _ ?_; simp_all; omega)
      | (with_reducible refine Lead.getObjH h _ ?gk_ (.inr ?gd_) (fun _ _ h => ?_); (case gk_ => intros; rfl); (case gd_ => intro w_; refine ⟨_, _, rfl, ?_⟩; simp [Soft]))
      | (with_reducible refine Lead.forInArray _ ?_ _ _; intro _ _)
      | (with_reducible refine Lead.forInRange _ ?_ _ _; intro _ _)
      | (with_reducible refine Lead.forInList _ ?_ _ _; intro _ _)
      | (with_reducible refine Lead.mapArray _ ?_ _; intro _)
      | (with_reducible refine Lead.foldlM _ ?_ _ _; intro _ _)
      | with_reducible assumption
      | with_reducible exact Lead.pure _
      | with_reducible exact Lead.stuck _
      | with_reducible exact Lead.unsupported _
      | with_reducible exact Lead.goPanic _

      | with_reducible exact Lead.runtimePanic h _
      | with_reducible exact Lead.boundsPanic h _ _ _ _
      | with_reducible exact Lead.underlying h _
      | with_reducible exact Lead.typeInfo h _
      | with_reducible exact Lead.zeroValue h _
      | with_reducible exact Lead.sizeOf h _
      | with_reducible exact Lead.isAgg h _
      | with_reducible exact Lead.loadCells _ _
      | with_reducible exact Lead.storeCells _ _ _
      | with_reducible exact Lead.loadVar h _ _
      | with_reducible exact Lead.storeVar h _ _ _
      | with_reducible exact Lead.newRow _ _
      | with_reducible exact Lead.newVar _ _
      | with_reducible exact Lead.elemOf h _
      | with_reducible exact Lead.part h _ _ _
      | with_reducible exact Lead.asIntOf _
      | with_reducible exact Lead.asInt _
      | with_reducible exact Lead.asBool _
      | with_reducible exact Lead.asString _
      | with_reducible exact Lead.asAgg _
      | with_reducible exact Lead.asAddr h _
      | with_reducible exact Lead.sureAddr _
      | with_reducible exact Lead.load _ _
      | with_reducible exact Lead.store _ _ _
      | with_reducible exact Lead.choose _
      | with_reducible exact Lead.frozen _
      | with_reducible exact Lead.askRoom _
      | with_reducible exact Lead.typeStr h _
      | with_reducible exact Lead.loadAt h _ _
      | with_reducible exact Lead.storeAt h _ _ _
      | with_reducible exact Lead.alloc h _ _ _
      | with_reducible exact Lead.box h _ _
      | with_reducible exact Lead.field h _ _ _
      | with_reducible exact Lead.index h _ _ _
      | with_reducible exact Lead.indexAt h _ _ _
      | with_reducible exact Lead.sliceBound h _ _ _
      | with_reducible exact Lead.sliceBounds h _ _ _ _ _ _
      | with_reducible exact Lead.slice h _ _ _ _ _
      | with_reducible exact Lead.sliceAt h _ _ _ _ _
      | with_reducible exact Lead.arrayAt h _ _
      | with_reducible exact Lead.makeInterface h _ _
      | with_reducible exact Lead.makeFunc h _ _ _
      | with_reducible exact Lead.extract h _ _
      | with_reducible exact Lead.buildSlice h _ _ _
      | with_reducible exact Lead.makeSlice h _ _ _
      | with_reducible exact Lead.intArith h _ _ _ _
      | with_reducible exact Lead.intDiv h _ _ _ _
      | with_reducible exact Lead.intBits h _ _ _ _
      | with_reducible exact Lead.shift h _ _ _ _ _
      | with_reducible exact Lead.intCmp h _ _ _
      | with_reducible exact Lead.stringOp h _ _ _
      | with_reducible exact Lead.unary h _ _
      | with_reducible exact Lead.len_ h _ _ _
      | with_reducible exact Lead.cap_ h _ _ _
      | with_reducible exact Lead.lenOf h _
      | with_reducible exact Lead.firstCells h _ _ _
      | with_reducible exact Lead.copy_ h _ _ _
      | with_reducible exact Lead.checkKey h _ _ _ _
      | with_reducible exact Lead.bytesToString h _
      | with_reducible exact Lead.behindNumber _
      | with_reducible exact Lead.sameAddr _ _
      | with_reducible exact Lead.samePointer _ _
      | with_reducible exact Lead.noView _
      | with_reducible exact Lead.viewAt _
      | with_reducible exact Lead.numberAt _
      | with_reducible exact Lead.equalIn h _ _ _ _
      | with_reducible exact Lead.eqGuardIn h _ _ _ _
      | with_reducible exact Lead.equal h _ _ _
      | with_reducible exact Lead.eqGuard h _ _ _ _ _ _
      | with_reducible exact Lead.floatArith h _ _ _ _
      | with_reducible exact Lead.floatCmp h _ _ _ _
      | with_reducible exact Lead.floatToFloat h _ _ _
      | with_reducible exact Lead.floatToInt h _ _ _
      | with_reducible exact Lead.cArith h _ _ _ _
      | with_reducible exact Lead.cCmp h _ _ _ _
      | with_reducible exact Lead.cConv h _ _ _
      | with_reducible exact Lead.cadd h _ _
      | with_reducible exact Lead.csub h _ _
      | with_reducible refine Lead.bind ?_ (fun _ => ?_)
      | with_reducible refine Lead.map ?_
      | with_reducible refine Lead.iteH (fun _ => ?_) (fun _ => ?_)
      | split
      | dsimp only

theorem Lead.cquo (h : Tab V) (x y : Nat) : Lead V (Op.Complex.quo x y) := by
    unfold Op.Complex.quo
    repeat' first
      | (with_reducible refine Lead.program ?eq_ ?_; (case eq_ => simp only [tables_holdsPacked h.tables, tables_stoodInHeld h.tables, tables_depth h.tables, tables_globals h.tables, tables_eqGuard h.tables, tables_info h.tables]))
      | (refine Lead.byteOfG h _ ?_; simp_all; done)
      | (refine Lead.byteOfG h _ ?_; simp_all; omega)
      | (with_reducible refine Lead.getObjH h _ ?gk_ (.inr ?gd_) (fun _ _ h => ?_); (case gk_ => intros; rfl); (case gd_ => intro w_; refine ⟨_, _, rfl, ?_⟩; simp [Soft]))
      | (with_reducible refine Lead.forInArray _ ?_ _ _; intro _ _)
      | (with_reducible refine Lead.forInRange _ ?_ _ _; intro _ _)
      | (with_reducible refine Lead.forInList _ ?_ _ _; intro _ _)
      | (with_reducible refine Lead.mapArray _ ?_ _; intro _)
      | (with_reducible refine Lead.foldlM _ ?_ _ _; intro _ _)
      | with_reducible assumption
      | with_reducible exact Lead.pure _
      | with_reducible exact Lead.stuck _
      | with_reducible exact Lead.unsupported _
      | with_reducible exact Lead.goPanic _

      | with_reducible exact Lead.runtimePanic h _
      | with_reducible exact Lead.boundsPanic h _ _ _ _
      | with_reducible exact Lead.underlying h _
      | with_reducible exact Lead.typeInfo h _
      | with_reducible exact Lead.zeroValue h _
      | with_reducible exact Lead.sizeOf h _
      | with_reducible exact Lead.isAgg h _
      | with_reducible exact Lead.loadCells _ _
      | with_reducible exact Lead.storeCells _ _ _
      | with_reducible exact Lead.loadVar h _ _
      | with_reducible exact Lead.storeVar h _ _ _
      | with_reducible exact Lead.newRow _ _
      | with_reducible exact Lead.newVar _ _
      | with_reducible exact Lead.elemOf h _
      | with_reducible exact Lead.part h _ _ _
      | with_reducible exact Lead.asIntOf _
      | with_reducible exact Lead.asInt _
      | with_reducible exact Lead.asBool _
      | with_reducible exact Lead.asString _
      | with_reducible exact Lead.asAgg _
      | with_reducible exact Lead.asAddr h _
      | with_reducible exact Lead.sureAddr _
      | with_reducible exact Lead.load _ _
      | with_reducible exact Lead.store _ _ _
      | with_reducible exact Lead.choose _
      | with_reducible exact Lead.frozen _
      | with_reducible exact Lead.askRoom _
      | with_reducible exact Lead.typeStr h _
      | with_reducible exact Lead.loadAt h _ _
      | with_reducible exact Lead.storeAt h _ _ _
      | with_reducible exact Lead.alloc h _ _ _
      | with_reducible exact Lead.box h _ _
      | with_reducible exact Lead.field h _ _ _
      | with_reducible exact Lead.index h _ _ _
      | with_reducible exact Lead.indexAt h _ _ _
      | with_reducible exact Lead.sliceBound h _ _ _
      | with_reducible exact Lead.sliceBounds h _ _ _ _ _ _
      | with_reducible exact Lead.slice h _ _ _ _ _
      | with_reducible exact Lead.sliceAt h _ _ _ _ _
      | with_reducible exact Lead.arrayAt h _ _
      | with_reducible exact Lead.makeInterface h _ _
      | with_reducible exact Lead.makeFunc h _ _ _
      | with_reducible exact Lead.extract h _ _
      | with_reducible exact Lead.buildSlice h _ _ _
      | with_reducible exact Lead.makeSlice h _ _ _
      | with_reducible exact Lead.intArith h _ _ _ _
      | with_reducible exact Lead.intDiv h _ _ _ _
      | with_reducible exact Lead.intBits h _ _ _ _
      | with_reducible exact Lead.shift h _ _ _ _ _
      | with_reducible exact Lead.intCmp h _ _ _
      | with_reducible exact Lead.stringOp h _ _ _
      | with_reducible exact Lead.unary h _ _
      | with_reducible exact Lead.len_ h _ _ _
      | with_reducible exact Lead.cap_ h _ _ _
      | with_reducible exact Lead.lenOf h _
      | with_reducible exact Lead.firstCells h _ _ _
      | with_reducible exact Lead.copy_ h _ _ _
      | with_reducible exact Lead.checkKey h _ _ _ _
      | with_reducible exact Lead.bytesToString h _
      | with_reducible exact Lead.behindNumber _
      | with_reducible exact Lead.sameAddr _ _
      | with_reducible exact Lead.samePointer _ _
      | with_reducible exact Lead.noView _
      | with_reducible exact Lead.viewAt _
      | with_reducible exact Lead.numberAt _
      | with_reducible exact Lead.equalIn h _ _ _ _
      | with_reducible exact Lead.eqGuardIn h _ _ _ _
      | with_reducible exact Lead.equal h _ _ _
      | with_reducible exact Lead.eqGuard h _ _ _ _ _ _
      | with_reducible exact Lead.floatArith h _ _ _ _
      | with_reducible exact Lead.floatCmp h _ _ _ _
      | with_reducible exact Lead.floatToFloat h _ _ _
      | with_reducible exact Lead.floatToInt h _ _ _
      | with_reducible exact Lead.cArith h _ _ _ _
      | with_reducible exact Lead.cCmp h _ _ _ _
      | with_reducible exact Lead.cConv h _ _ _
      | with_reducible exact Lead.cadd h _ _
      | with_reducible exact Lead.csub h _ _
      | with_reducible exact Lead.cmul h _ _
      | with_reducible refine Lead.bind ?_ (fun _ => ?_)
      | with_reducible refine Lead.map ?_
      | with_reducible refine Lead.iteH (fun _ => ?_) (fun _ => ?_)
      | split
      | dsimp only

theorem Lead.cProduct (h : Tab V) (a b c d : Nat) : Lead V (Op.Complex.product a b c d) := by
    unfold Op.Complex.product
    repeat' first
      | (with_reducible refine Lead.program ?eq_ ?_; (case eq_ => simp only [tables_holdsPacked h.tables, tables_stoodInHeld h.tables, tables_depth h.tables, tables_globals h.tables, tables_eqGuard h.tables, tables_info h.tables]))
      | (refine Lead.byteOfG h _ ?_; simp_all; done)
      | (refine Lead.byteOfG h _ ?_; simp_all; omega)
      | (with_reducible refine Lead.getObjH h _ ?gk_ (.inr ?gd_) (fun _ _ h => ?_); (case gk_ => intros; rfl); (case gd_ => intro w_; refine ⟨_, _, rfl, ?_⟩; simp [Soft]))
      | (with_reducible refine Lead.forInArray _ ?_ _ _; intro _ _)
      | (with_reducible refine Lead.forInRange _ ?_ _ _; intro _ _)
      | (with_reducible refine Lead.forInList _ ?_ _ _; intro _ _)
      | (with_reducible refine Lead.mapArray _ ?_ _; intro _)
      | (with_reducible refine Lead.foldlM _ ?_ _ _; intro _ _)
      | with_reducible assumption
      | with_reducible exact Lead.pure _
      | with_reducible exact Lead.stuck _
      | with_reducible exact Lead.unsupported _
      | with_reducible exact Lead.goPanic _

      | with_reducible exact Lead.runtimePanic h _
      | with_reducible exact Lead.boundsPanic h _ _ _ _
      | with_reducible exact Lead.underlying h _
      | with_reducible exact Lead.typeInfo h _
      | with_reducible exact Lead.zeroValue h _
      | with_reducible exact Lead.sizeOf h _
      | with_reducible exact Lead.isAgg h _
      | with_reducible exact Lead.loadCells _ _
      | with_reducible exact Lead.storeCells _ _ _
      | with_reducible exact Lead.loadVar h _ _
      | with_reducible exact Lead.storeVar h _ _ _
      | with_reducible exact Lead.newRow _ _
      | with_reducible exact Lead.newVar _ _
      | with_reducible exact Lead.elemOf h _
      | with_reducible exact Lead.part h _ _ _
      | with_reducible exact Lead.asIntOf _
      | with_reducible exact Lead.asInt _
      | with_reducible exact Lead.asBool _
      | with_reducible exact Lead.asString _
      | with_reducible exact Lead.asAgg _
      | with_reducible exact Lead.asAddr h _
      | with_reducible exact Lead.sureAddr _
      | with_reducible exact Lead.load _ _
      | with_reducible exact Lead.store _ _ _
      | with_reducible exact Lead.choose _
      | with_reducible exact Lead.frozen _
      | with_reducible exact Lead.askRoom _
      | with_reducible exact Lead.typeStr h _
      | with_reducible exact Lead.loadAt h _ _
      | with_reducible exact Lead.storeAt h _ _ _
      | with_reducible exact Lead.alloc h _ _ _
      | with_reducible exact Lead.box h _ _
      | with_reducible exact Lead.field h _ _ _
      | with_reducible exact Lead.index h _ _ _
      | with_reducible exact Lead.indexAt h _ _ _
      | with_reducible exact Lead.sliceBound h _ _ _
      | with_reducible exact Lead.sliceBounds h _ _ _ _ _ _
      | with_reducible exact Lead.slice h _ _ _ _ _
      | with_reducible exact Lead.sliceAt h _ _ _ _ _
      | with_reducible exact Lead.arrayAt h _ _
      | with_reducible exact Lead.makeInterface h _ _
      | with_reducible exact Lead.makeFunc h _ _ _
      | with_reducible exact Lead.extract h _ _
      | with_reducible exact Lead.buildSlice h _ _ _
      | with_reducible exact Lead.makeSlice h _ _ _
      | with_reducible exact Lead.intArith h _ _ _ _
      | with_reducible exact Lead.intDiv h _ _ _ _
      | with_reducible exact Lead.intBits h _ _ _ _
      | with_reducible exact Lead.shift h _ _ _ _ _
      | with_reducible exact Lead.intCmp h _ _ _
      | with_reducible exact Lead.stringOp h _ _ _
      | with_reducible exact Lead.unary h _ _
      | with_reducible exact Lead.len_ h _ _ _
      | with_reducible exact Lead.cap_ h _ _ _
      | with_reducible exact Lead.lenOf h _
      | with_reducible exact Lead.firstCells h _ _ _
      | with_reducible exact Lead.copy_ h _ _ _
      | with_reducible exact Lead.checkKey h _ _ _ _
      | with_reducible exact Lead.bytesToString h _
      | with_reducible exact Lead.behindNumber _
      | with_reducible exact Lead.sameAddr _ _
      | with_reducible exact Lead.samePointer _ _
      | with_reducible exact Lead.noView _
      | with_reducible exact Lead.viewAt _
      | with_reducible exact Lead.numberAt _
      | with_reducible exact Lead.equalIn h _ _ _ _
      | with_reducible exact Lead.eqGuardIn h _ _ _ _
      | with_reducible exact Lead.equal h _ _ _
      | with_reducible exact Lead.eqGuard h _ _ _ _ _ _
      | with_reducible exact Lead.floatArith h _ _ _ _
      | with_reducible exact Lead.floatCmp h _ _ _ _
      | with_reducible exact Lead.floatToFloat h _ _ _
      | with_reducible exact Lead.floatToInt h _ _ _
      | with_reducible exact Lead.cArith h _ _ _ _
      | with_reducible exact Lead.cCmp h _ _ _ _
      | with_reducible exact Lead.cConv h _ _ _
      | with_reducible exact Lead.cadd h _ _
      | with_reducible exact Lead.csub h _ _
      | with_reducible exact Lead.cmul h _ _
      | with_reducible exact Lead.cquo h _ _
      | with_reducible refine Lead.bind ?_ (fun _ => ?_)
      | with_reducible refine Lead.map ?_
      | with_reducible refine Lead.iteH (fun _ => ?_) (fun _ => ?_)
      | split
      | dsimp only

theorem Lead.cCorrected (h : Tab V) (s a b c d : Nat) : Lead V (Op.Complex.corrected s a b c d) := by
    unfold Op.Complex.corrected
    repeat' first
      | (with_reducible refine Lead.program ?eq_ ?_; (case eq_ => simp only [tables_holdsPacked h.tables, tables_stoodInHeld h.tables, tables_depth h.tables, tables_globals h.tables, tables_eqGuard h.tables, tables_info h.tables]))
      | (refine Lead.byteOfG h _ ?_; simp_all; done)
      | (refine Lead.byteOfG h _ ?_; simp_all; omega)
      | (with_reducible refine Lead.getObjH h _ ?gk_ (.inr ?gd_) (fun _ _ h => ?_); (case gk_ => intros; rfl); (case gd_ => intro w_; refine ⟨_, _, rfl, ?_⟩; simp [Soft]))
      | (with_reducible refine Lead.forInArray _ ?_ _ _; intro _ _)
      | (with_reducible refine Lead.forInRange _ ?_ _ _; intro _ _)
      | (with_reducible refine Lead.forInList _ ?_ _ _; intro _ _)
      | (with_reducible refine Lead.mapArray _ ?_ _; intro _)
      | (with_reducible refine Lead.foldlM _ ?_ _ _; intro _ _)
      | with_reducible assumption
      | with_reducible exact Lead.pure _
      | with_reducible exact Lead.stuck _
      | with_reducible exact Lead.unsupported _
      | with_reducible exact Lead.goPanic _

      | with_reducible exact Lead.runtimePanic h _
      | with_reducible exact Lead.boundsPanic h _ _ _ _
      | with_reducible exact Lead.underlying h _
      | with_reducible exact Lead.typeInfo h _
      | with_reducible exact Lead.zeroValue h _
      | with_reducible exact Lead.sizeOf h _
      | with_reducible exact Lead.isAgg h _
      | with_reducible exact Lead.loadCells _ _
      | with_reducible exact Lead.storeCells _ _ _
      | with_reducible exact Lead.loadVar h _ _
      | with_reducible exact Lead.storeVar h _ _ _
      | with_reducible exact Lead.newRow _ _
      | with_reducible exact Lead.newVar _ _
      | with_reducible exact Lead.elemOf h _
      | with_reducible exact Lead.part h _ _ _
      | with_reducible exact Lead.asIntOf _
      | with_reducible exact Lead.asInt _
      | with_reducible exact Lead.asBool _
      | with_reducible exact Lead.asString _
      | with_reducible exact Lead.asAgg _
      | with_reducible exact Lead.asAddr h _
      | with_reducible exact Lead.sureAddr _
      | with_reducible exact Lead.load _ _
      | with_reducible exact Lead.store _ _ _
      | with_reducible exact Lead.choose _
      | with_reducible exact Lead.frozen _
      | with_reducible exact Lead.askRoom _
      | with_reducible exact Lead.typeStr h _
      | with_reducible exact Lead.loadAt h _ _
      | with_reducible exact Lead.storeAt h _ _ _
      | with_reducible exact Lead.alloc h _ _ _
      | with_reducible exact Lead.box h _ _
      | with_reducible exact Lead.field h _ _ _
      | with_reducible exact Lead.index h _ _ _
      | with_reducible exact Lead.indexAt h _ _ _
      | with_reducible exact Lead.sliceBound h _ _ _
      | with_reducible exact Lead.sliceBounds h _ _ _ _ _ _
      | with_reducible exact Lead.slice h _ _ _ _ _
      | with_reducible exact Lead.sliceAt h _ _ _ _ _
      | with_reducible exact Lead.arrayAt h _ _
      | with_reducible exact Lead.makeInterface h _ _
      | with_reducible exact Lead.makeFunc h _ _ _
      | with_reducible exact Lead.extract h _ _
      | with_reducible exact Lead.buildSlice h _ _ _
      | with_reducible exact Lead.makeSlice h _ _ _
      | with_reducible exact Lead.intArith h _ _ _ _
      | with_reducible exact Lead.intDiv h _ _ _ _
      | with_reducible exact Lead.intBits h _ _ _ _
      | with_reducible exact Lead.shift h _ _ _ _ _
      | with_reducible exact Lead.intCmp h _ _ _
      | with_reducible exact Lead.stringOp h _ _ _
      | with_reducible exact Lead.unary h _ _
      | with_reducible exact Lead.len_ h _ _ _
      | with_reducible exact Lead.cap_ h _ _ _
      | with_reducible exact Lead.lenOf h _
      | with_reducible exact Lead.firstCells h _ _ _
      | with_reducible exact Lead.copy_ h _ _ _
      | with_reducible exact Lead.checkKey h _ _ _ _
      | with_reducible exact Lead.bytesToString h _
      | with_reducible exact Lead.behindNumber _
      | with_reducible exact Lead.sameAddr _ _
      | with_reducible exact Lead.samePointer _ _
      | with_reducible exact Lead.noView _
      | with_reducible exact Lead.viewAt _
      | with_reducible exact Lead.numberAt _
      | with_reducible exact Lead.equalIn h _ _ _ _
      | with_reducible exact Lead.eqGuardIn h _ _ _ _
      | with_reducible exact Lead.equal h _ _ _
      | with_reducible exact Lead.eqGuard h _ _ _ _ _ _
      | with_reducible exact Lead.floatArith h _ _ _ _
      | with_reducible exact Lead.floatCmp h _ _ _ _
      | with_reducible exact Lead.floatToFloat h _ _ _
      | with_reducible exact Lead.floatToInt h _ _ _
      | with_reducible exact Lead.cArith h _ _ _ _
      | with_reducible exact Lead.cCmp h _ _ _ _
      | with_reducible exact Lead.cConv h _ _ _
      | with_reducible exact Lead.cadd h _ _
      | with_reducible exact Lead.csub h _ _
      | with_reducible exact Lead.cmul h _ _
      | with_reducible exact Lead.cquo h _ _
      | with_reducible exact Lead.cProduct h _ _ _ _
      | with_reducible refine Lead.bind ?_ (fun _ => ?_)
      | with_reducible refine Lead.map ?_
      | with_reducible refine Lead.iteH (fun _ => ?_) (fun _ => ?_)
      | split
      | dsimp only

theorem Lead.cQuotient (h : Tab V) (a b c d : Nat) : Lead V (Op.Complex.quotient a b c d) := by
    unfold Op.Complex.quotient
    repeat' first
      | (with_reducible refine Lead.program ?eq_ ?_; (case eq_ => simp only [tables_holdsPacked h.tables, tables_stoodInHeld h.tables, tables_depth h.tables, tables_globals h.tables, tables_eqGuard h.tables, tables_info h.tables]))
      | (refine Lead.byteOfG h _ ?_; simp_all; done)
      | (refine Lead.byteOfG h _ ?_; simp_all; omega)
      | (with_reducible refine Lead.getObjH h _ ?gk_ (.inr ?gd_) (fun _ _ h => ?_); (case gk_ => intros; rfl); (case gd_ => intro w_; refine ⟨_, _, rfl, ?_⟩; simp [Soft]))
      | (with_reducible refine Lead.forInArray _ ?_ _ _; intro _ _)
      | (with_reducible refine Lead.forInRange _ ?_ _ _; intro _ _)
      | (with_reducible refine Lead.forInList _ ?_ _ _; intro _ _)
      | (with_reducible refine Lead.mapArray _ ?_ _; intro _)
      | (with_reducible refine Lead.foldlM _ ?_ _ _; intro _ _)
      | with_reducible assumption
      | with_reducible exact Lead.pure _
      | with_reducible exact Lead.stuck _
      | with_reducible exact Lead.unsupported _
      | with_reducible exact Lead.goPanic _

      | with_reducible exact Lead.runtimePanic h _
      | with_reducible exact Lead.boundsPanic h _ _ _ _
      | with_reducible exact Lead.underlying h _
      | with_reducible exact Lead.typeInfo h _
      | with_reducible exact Lead.zeroValue h _
      | with_reducible exact Lead.sizeOf h _
      | with_reducible exact Lead.isAgg h _
      | with_reducible exact Lead.loadCells _ _
      | with_reducible exact Lead.storeCells _ _ _
      | with_reducible exact Lead.loadVar h _ _
      | with_reducible exact Lead.storeVar h _ _ _
      | with_reducible exact Lead.newRow _ _
      | with_reducible exact Lead.newVar _ _
      | with_reducible exact Lead.elemOf h _
      | with_reducible exact Lead.part h _ _ _
      | with_reducible exact Lead.asIntOf _
      | with_reducible exact Lead.asInt _
      | with_reducible exact Lead.asBool _
      | with_reducible exact Lead.asString _
      | with_reducible exact Lead.asAgg _
      | with_reducible exact Lead.asAddr h _
      | with_reducible exact Lead.sureAddr _
      | with_reducible exact Lead.load _ _
      | with_reducible exact Lead.store _ _ _
      | with_reducible exact Lead.choose _
      | with_reducible exact Lead.frozen _
      | with_reducible exact Lead.askRoom _
      | with_reducible exact Lead.typeStr h _
      | with_reducible exact Lead.loadAt h _ _
      | with_reducible exact Lead.storeAt h _ _ _
      | with_reducible exact Lead.alloc h _ _ _
      | with_reducible exact Lead.box h _ _
      | with_reducible exact Lead.field h _ _ _
      | with_reducible exact Lead.index h _ _ _
      | with_reducible exact Lead.indexAt h _ _ _
      | with_reducible exact Lead.sliceBound h _ _ _
      | with_reducible exact Lead.sliceBounds h _ _ _ _ _ _
      | with_reducible exact Lead.slice h _ _ _ _ _
      | with_reducible exact Lead.sliceAt h _ _ _ _ _
      | with_reducible exact Lead.arrayAt h _ _
      | with_reducible exact Lead.makeInterface h _ _
      | with_reducible exact Lead.makeFunc h _ _ _
      | with_reducible exact Lead.extract h _ _
      | with_reducible exact Lead.buildSlice h _ _ _
      | with_reducible exact Lead.makeSlice h _ _ _
      | with_reducible exact Lead.intArith h _ _ _ _
      | with_reducible exact Lead.intDiv h _ _ _ _
      | with_reducible exact Lead.intBits h _ _ _ _
      | with_reducible exact Lead.shift h _ _ _ _ _
      | with_reducible exact Lead.intCmp h _ _ _
      | with_reducible exact Lead.stringOp h _ _ _
      | with_reducible exact Lead.unary h _ _
      | with_reducible exact Lead.len_ h _ _ _
      | with_reducible exact Lead.cap_ h _ _ _
      | with_reducible exact Lead.lenOf h _
      | with_reducible exact Lead.firstCells h _ _ _
      | with_reducible exact Lead.copy_ h _ _ _
      | with_reducible exact Lead.checkKey h _ _ _ _
      | with_reducible exact Lead.bytesToString h _
      | with_reducible exact Lead.behindNumber _
      | with_reducible exact Lead.sameAddr _ _
      | with_reducible exact Lead.samePointer _ _
      | with_reducible exact Lead.noView _
      | with_reducible exact Lead.viewAt _
      | with_reducible exact Lead.numberAt _
      | with_reducible exact Lead.equalIn h _ _ _ _
      | with_reducible exact Lead.eqGuardIn h _ _ _ _
      | with_reducible exact Lead.equal h _ _ _
      | with_reducible exact Lead.eqGuard h _ _ _ _ _ _
      | with_reducible exact Lead.floatArith h _ _ _ _
      | with_reducible exact Lead.floatCmp h _ _ _ _
      | with_reducible exact Lead.floatToFloat h _ _ _
      | with_reducible exact Lead.floatToInt h _ _ _
      | with_reducible exact Lead.cArith h _ _ _ _
      | with_reducible exact Lead.cCmp h _ _ _ _
      | with_reducible exact Lead.cConv h _ _ _
      | with_reducible exact Lead.cadd h _ _
      | with_reducible exact Lead.csub h _ _
      | with_reducible exact Lead.cmul h _ _
      | with_reducible exact Lead.cquo h _ _
      | with_reducible exact Lead.cProduct h _ _ _ _
      | with_reducible exact Lead.cCorrected h _ _ _ _ _
      | with_reducible refine Lead.bind ?_ (fun _ => ?_)
      | with_reducible refine Lead.map ?_
      | with_reducible refine Lead.iteH (fun _ => ?_) (fun _ => ?_)
      | split
      | dsimp only

theorem Lead.complexOp (h : Tab V) (o : BinOp) (k : FloatKind) (a b c d : Nat) : Lead V (Op.complexOp o k a b c d) := by
    unfold Op.complexOp
    repeat' first
      | (with_reducible refine Lead.program ?eq_ ?_; (case eq_ => simp only [tables_holdsPacked h.tables, tables_stoodInHeld h.tables, tables_depth h.tables, tables_globals h.tables, tables_eqGuard h.tables, tables_info h.tables]))
      | (refine Lead.byteOfG h _ ?_; simp_all; done)
      | (refine Lead.byteOfG h _ ?_; simp_all; omega)
      | (with_reducible refine Lead.getObjH h _ ?gk_ (.inr ?gd_) (fun _ _ h => ?_); (case gk_ => intros; rfl); (case gd_ => intro w_; refine ⟨_, _, rfl, ?_⟩; simp [Soft]))
      | (with_reducible refine Lead.forInArray _ ?_ _ _; intro _ _)
      | (with_reducible refine Lead.forInRange _ ?_ _ _; intro _ _)
      | (with_reducible refine Lead.forInList _ ?_ _ _; intro _ _)
      | (with_reducible refine Lead.mapArray _ ?_ _; intro _)
      | (with_reducible refine Lead.foldlM _ ?_ _ _; intro _ _)
      | with_reducible assumption
      | with_reducible exact Lead.pure _
      | with_reducible exact Lead.stuck _
      | with_reducible exact Lead.unsupported _
      | with_reducible exact Lead.goPanic _

      | with_reducible exact Lead.runtimePanic h _
      | with_reducible exact Lead.boundsPanic h _ _ _ _
      | with_reducible exact Lead.underlying h _
      | with_reducible exact Lead.typeInfo h _
      | with_reducible exact Lead.zeroValue h _
      | with_reducible exact Lead.sizeOf h _
      | with_reducible exact Lead.isAgg h _
      | with_reducible exact Lead.loadCells _ _
      | with_reducible exact Lead.storeCells _ _ _
      | with_reducible exact Lead.loadVar h _ _
      | with_reducible exact Lead.storeVar h _ _ _
      | with_reducible exact Lead.newRow _ _
      | with_reducible exact Lead.newVar _ _
      | with_reducible exact Lead.elemOf h _
      | with_reducible exact Lead.part h _ _ _
      | with_reducible exact Lead.asIntOf _
      | with_reducible exact Lead.asInt _
      | with_reducible exact Lead.asBool _
      | with_reducible exact Lead.asString _
      | with_reducible exact Lead.asAgg _
      | with_reducible exact Lead.asAddr h _
      | with_reducible exact Lead.sureAddr _
      | with_reducible exact Lead.load _ _
      | with_reducible exact Lead.store _ _ _
      | with_reducible exact Lead.choose _
      | with_reducible exact Lead.frozen _
      | with_reducible exact Lead.askRoom _
      | with_reducible exact Lead.typeStr h _
      | with_reducible exact Lead.loadAt h _ _
      | with_reducible exact Lead.storeAt h _ _ _
      | with_reducible exact Lead.alloc h _ _ _
      | with_reducible exact Lead.box h _ _
      | with_reducible exact Lead.field h _ _ _
      | with_reducible exact Lead.index h _ _ _
      | with_reducible exact Lead.indexAt h _ _ _
      | with_reducible exact Lead.sliceBound h _ _ _
      | with_reducible exact Lead.sliceBounds h _ _ _ _ _ _
      | with_reducible exact Lead.slice h _ _ _ _ _
      | with_reducible exact Lead.sliceAt h _ _ _ _ _
      | with_reducible exact Lead.arrayAt h _ _
      | with_reducible exact Lead.makeInterface h _ _
      | with_reducible exact Lead.makeFunc h _ _ _
      | with_reducible exact Lead.extract h _ _
      | with_reducible exact Lead.buildSlice h _ _ _
      | with_reducible exact Lead.makeSlice h _ _ _
      | with_reducible exact Lead.intArith h _ _ _ _
      | with_reducible exact Lead.intDiv h _ _ _ _
      | with_reducible exact Lead.intBits h _ _ _ _
      | with_reducible exact Lead.shift h _ _ _ _ _
      | with_reducible exact Lead.intCmp h _ _ _
      | with_reducible exact Lead.stringOp h _ _ _
      | with_reducible exact Lead.unary h _ _
      | with_reducible exact Lead.len_ h _ _ _
      | with_reducible exact Lead.cap_ h _ _ _
      | with_reducible exact Lead.lenOf h _
      | with_reducible exact Lead.firstCells h _ _ _
      | with_reducible exact Lead.copy_ h _ _ _
      | with_reducible exact Lead.checkKey h _ _ _ _
      | with_reducible exact Lead.bytesToString h _
      | with_reducible exact Lead.behindNumber _
      | with_reducible exact Lead.sameAddr _ _
      | with_reducible exact Lead.samePointer _ _
      | with_reducible exact Lead.noView _
      | with_reducible exact Lead.viewAt _
      | with_reducible exact Lead.numberAt _
      | with_reducible exact Lead.equalIn h _ _ _ _
      | with_reducible exact Lead.eqGuardIn h _ _ _ _
      | with_reducible exact Lead.equal h _ _ _
      | with_reducible exact Lead.eqGuard h _ _ _ _ _ _
      | with_reducible exact Lead.floatArith h _ _ _ _
      | with_reducible exact Lead.floatCmp h _ _ _ _
      | with_reducible exact Lead.floatToFloat h _ _ _
      | with_reducible exact Lead.floatToInt h _ _ _
      | with_reducible exact Lead.cArith h _ _ _ _
      | with_reducible exact Lead.cCmp h _ _ _ _
      | with_reducible exact Lead.cConv h _ _ _
      | with_reducible exact Lead.cadd h _ _
      | with_reducible exact Lead.csub h _ _
      | with_reducible exact Lead.cmul h _ _
      | with_reducible exact Lead.cquo h _ _
      | with_reducible exact Lead.cProduct h _ _ _ _
      | with_reducible exact Lead.cCorrected h _ _ _ _ _
      | with_reducible exact Lead.cQuotient h _ _ _ _
      | with_reducible refine Lead.bind ?_ (fun _ => ?_)
      | with_reducible refine Lead.map ?_
      | with_reducible refine Lead.iteH (fun _ => ?_) (fun _ => ?_)
      | split
      | dsimp only

theorem Lead.complexToComplex (h : Tab V) (k : FloatKind) (a b : Nat) (d : FloatKind) : Lead V (Conv.complexToComplex k a b d) := by
    unfold Conv.complexToComplex
    repeat' first
      | (with_reducible refine Lead.getObjH h _ ?gk_ (.inr ?gd_) (fun _ _ h => ?_); (case gk_ => intros; rfl); (case gd_ => intro w_; refine ⟨_, _, rfl, ?_⟩; simp [Soft]))
      | (with_reducible refine Lead.forInArray _ ?_ _ _; intro _ _)
      | (with_reducible refine Lead.forInRange _ ?_ _ _; intro _ _)
      | (with_reducible refine Lead.forInList _ ?_ _ _; intro _ _)
      | (with_reducible refine Lead.mapArray _ ?_ _; intro _)
      | (with_reducible refine Lead.foldlM _ ?_ _ _; intro _ _)
      | with_reducible assumption
      | with_reducible exact Lead.pure _
      | with_reducible exact Lead.stuck _
      | with_reducible exact Lead.unsupported _
      | with_reducible exact Lead.goPanic _
      | with_reducible exact Lead.floatToFloat h _ _ _
      | with_reducible refine Lead.bind ?_ (fun _ => ?_)
      | with_reducible refine Lead.map ?_
      | with_reducible refine Lead.iteH (fun _ => ?_) (fun _ => ?_)
      | split
      | dsimp only

theorem Lead.max2 (h : Tab V) (a b : Value) : Lead V (Builtin.max2 a b) := by
    unfold Builtin.max2
    repeat' first
      | (with_reducible refine Lead.getObjH h _ ?gk_ (.inr ?gd_) (fun _ _ h => ?_); (case gk_ => intros; rfl); (case gd_ => intro w_; refine ⟨_, _, rfl, ?_⟩; simp [Soft]))
      | (with_reducible refine Lead.forInArray _ ?_ _ _; intro _ _)
      | (with_reducible refine Lead.forInRange _ ?_ _ _; intro _ _)
      | (with_reducible refine Lead.forInList _ ?_ _ _; intro _ _)
      | (with_reducible refine Lead.mapArray _ ?_ _; intro _)
      | (with_reducible refine Lead.foldlM _ ?_ _ _; intro _ _)
      | with_reducible assumption
      | with_reducible exact Lead.pure _
      | with_reducible exact Lead.stuck _
      | with_reducible exact Lead.unsupported _
      | with_reducible exact Lead.goPanic _
      | with_reducible exact Lead.asBool _
      | with_reducible exact Lead.choose _
      | with_reducible exact Lead.stringOp h _ _ _
      | with_reducible refine Lead.bind ?_ (fun _ => ?_)
      | with_reducible refine Lead.map ?_
      | with_reducible refine Lead.iteH (fun _ => ?_) (fun _ => ?_)
      | split
      | dsimp only

theorem Lead.min2 (h : Tab V) (a b : Value) : Lead V (Builtin.min2 a b) := by
    unfold Builtin.min2
    repeat' first
      | (with_reducible refine Lead.getObjH h _ ?gk_ (.inr ?gd_) (fun _ _ h => ?_); (case gk_ => intros; rfl); (case gd_ => intro w_; refine ⟨_, _, rfl, ?_⟩; simp [Soft]))
      | (with_reducible refine Lead.forInArray _ ?_ _ _; intro _ _)
      | (with_reducible refine Lead.forInRange _ ?_ _ _; intro _ _)
      | (with_reducible refine Lead.forInList _ ?_ _ _; intro _ _)
      | (with_reducible refine Lead.mapArray _ ?_ _; intro _)
      | (with_reducible refine Lead.foldlM _ ?_ _ _; intro _ _)
      | with_reducible assumption
      | with_reducible exact Lead.pure _
      | with_reducible exact Lead.stuck _
      | with_reducible exact Lead.unsupported _
      | with_reducible exact Lead.goPanic _
      | with_reducible exact Lead.asBool _
      | with_reducible exact Lead.choose _
      | with_reducible exact Lead.stringOp h _ _ _
      | with_reducible refine Lead.bind ?_ (fun _ => ?_)
      | with_reducible refine Lead.map ?_
      | with_reducible refine Lead.iteH (fun _ => ?_) (fun _ => ?_)
      | split
      | dsimp only

theorem Lead.max_ (h : Tab V) (a : Array TypeId) (t : TypeId) (x : Array Value) : Lead V (Builtin.max_ a t x) := by
    unfold Builtin.max_
    repeat' first
      | (with_reducible refine Lead.getObjH h _ ?gk_ (.inr ?gd_) (fun _ _ h => ?_); (case gk_ => intros; rfl); (case gd_ => intro w_; refine ⟨_, _, rfl, ?_⟩; simp [Soft]))
      | (with_reducible refine Lead.forInArray _ ?_ _ _; intro _ _)
      | (with_reducible refine Lead.forInRange _ ?_ _ _; intro _ _)
      | (with_reducible refine Lead.forInList _ ?_ _ _; intro _ _)
      | (with_reducible refine Lead.mapArray _ ?_ _; intro _)
      | (with_reducible refine Lead.foldlM _ ?_ _ _; intro _ _)
      | with_reducible assumption
      | with_reducible exact Lead.pure _
      | with_reducible exact Lead.stuck _
      | with_reducible exact Lead.unsupported _
      | with_reducible exact Lead.goPanic _
      | with_reducible exact Lead.max2 h _ _
      | with_reducible refine Lead.bind ?_ (fun _ => ?_)
      | with_reducible refine Lead.map ?_
      | with_reducible refine Lead.iteH (fun _ => ?_) (fun _ => ?_)
      | split
      | dsimp only

theorem Lead.min_ (h : Tab V) (a : Array TypeId) (t : TypeId) (x : Array Value) : Lead V (Builtin.min_ a t x) := by
    unfold Builtin.min_
    repeat' first
      | (with_reducible refine Lead.getObjH h _ ?gk_ (.inr ?gd_) (fun _ _ h => ?_); (case gk_ => intros; rfl); (case gd_ => intro w_; refine ⟨_, _, rfl, ?_⟩; simp [Soft]))
      | (with_reducible refine Lead.forInArray _ ?_ _ _; intro _ _)
      | (with_reducible refine Lead.forInRange _ ?_ _ _; intro _ _)
      | (with_reducible refine Lead.forInList _ ?_ _ _; intro _ _)
      | (with_reducible refine Lead.mapArray _ ?_ _; intro _)
      | (with_reducible refine Lead.foldlM _ ?_ _ _; intro _ _)
      | with_reducible assumption
      | with_reducible exact Lead.pure _
      | with_reducible exact Lead.stuck _
      | with_reducible exact Lead.unsupported _
      | with_reducible exact Lead.goPanic _
      | with_reducible exact Lead.min2 h _ _
      | with_reducible refine Lead.bind ?_ (fun _ => ?_)
      | with_reducible refine Lead.map ?_
      | with_reducible refine Lead.iteH (fun _ => ?_) (fun _ => ?_)
      | split
      | dsimp only

theorem Lead.clear_ (h : Tab V) (a : Array TypeId) (t : TypeId) (x : Array Value) : Lead V (Builtin.clear_ a t x) := by
    unfold Builtin.clear_
    repeat' first
      | exact Lead.setObj _ _ rfl (by simp [Env.add])
      | (with_reducible refine Lead.getObjH h _ ?gk_ (.inr ?gd_) (fun _ _ h => ?_); (case gk_ => intros; rfl); (case gd_ => intro w_; refine ⟨_, _, rfl, ?_⟩; simp [Soft]))
      | (with_reducible refine Lead.forInArray _ ?_ _ _; intro _ _)
      | (with_reducible refine Lead.forInRange _ ?_ _ _; intro _ _)
      | (with_reducible refine Lead.forInList _ ?_ _ _; intro _ _)
      | (with_reducible refine Lead.mapArray _ ?_ _; intro _)
      | (with_reducible refine Lead.foldlM _ ?_ _ _; intro _ _)
      | with_reducible assumption
      | with_reducible exact Lead.pure _
      | with_reducible exact Lead.stuck _
      | with_reducible exact Lead.unsupported _
      | with_reducible exact Lead.goPanic _
      | with_reducible exact Lead.underlying h _
      | with_reducible exact Lead.zeroValue h _
      | with_reducible exact Lead.storeCells _ _ _
      | with_reducible exact Lead.slice h _ _ _ _ _
      | with_reducible refine Lead.bind ?_ (fun _ => ?_)
      | with_reducible refine Lead.map ?_
      | with_reducible refine Lead.iteH (fun _ => ?_) (fun _ => ?_)
      | split
      | dsimp only

theorem Lead.stringToRunes (h : Tab V) (t : TypeId) (s : ByteArray) : Lead V (Conv.stringToRunes t s) := by
    unfold Conv.stringToRunes
    repeat' first
      | (with_reducible refine Lead.getObjH h _ ?gk_ (.inr ?gd_) (fun _ _ h => ?_); (case gk_ => intros; rfl); (case gd_ => intro w_; refine ⟨_, _, rfl, ?_⟩; simp [Soft]))
      | (with_reducible refine Lead.forInArray _ ?_ _ _; intro _ _)
      | (with_reducible refine Lead.forInRange _ ?_ _ _; intro _ _)
      | (with_reducible refine Lead.forInList _ ?_ _ _; intro _ _)
      | (with_reducible refine Lead.mapArray _ ?_ _; intro _)
      | (with_reducible refine Lead.foldlM _ ?_ _ _; intro _ _)
      | with_reducible assumption
      | with_reducible exact Lead.pure _
      | with_reducible exact Lead.stuck _
      | with_reducible exact Lead.unsupported _
      | with_reducible exact Lead.goPanic _
      | with_reducible exact Lead.newRow _ _
      | with_reducible exact Lead.choose _
      | with_reducible exact Lead.slice h _ _ _ _ _
      | with_reducible refine Lead.bind ?_ (fun _ => ?_)
      | with_reducible refine Lead.map ?_
      | with_reducible refine Lead.iteH (fun _ => ?_) (fun _ => ?_)
      | split
      | dsimp only

theorem Lead.runesToString (h : Tab V) (x : Value) : Lead V (Conv.runesToString x) := by
    unfold Conv.runesToString
    repeat' first
      | (with_reducible refine Lead.getObjH h _ ?gk_ (.inr ?gd_) (fun _ _ h => ?_); (case gk_ => intros; rfl); (case gd_ => intro w_; refine ⟨_, _, rfl, ?_⟩; simp [Soft]))
      | (with_reducible refine Lead.forInArray _ ?_ _ _; intro _ _)
      | (with_reducible refine Lead.forInRange _ ?_ _ _; intro _ _)
      | (with_reducible refine Lead.forInList _ ?_ _ _; intro _ _)
      | (with_reducible refine Lead.mapArray _ ?_ _; intro _)
      | (with_reducible refine Lead.foldlM _ ?_ _ _; intro _ _)
      | with_reducible assumption
      | with_reducible exact Lead.pure _
      | with_reducible exact Lead.stuck _
      | with_reducible exact Lead.unsupported _
      | with_reducible exact Lead.goPanic _
      | with_reducible exact Lead.loadCells _ _
      | with_reducible exact Lead.slice h _ _ _ _ _
      | with_reducible refine Lead.bind ?_ (fun _ => ?_)
      | with_reducible refine Lead.map ?_
      | with_reducible refine Lead.iteH (fun _ => ?_) (fun _ => ?_)
      | split
      | dsimp only

theorem Lead.findAsking (h : Tab V) (t : TypeId) (k : Value) : ∀ (l : List MapEntry) (i : Nat), Lead V (Instr.findAsking t k l i) := by
    intro l
    induction l with
    | nil => intros; exact Lead.pure _
    | cons e l ih =>
    intros
    unfold Instr.findAsking
    repeat' first
      | (with_reducible refine Lead.getObjH h _ ?gk_ (.inr ?gd_) (fun _ _ h => ?_); (case gk_ => intros; rfl); (case gd_ => intro w_; refine ⟨_, _, rfl, ?_⟩; simp [Soft]))
      | (with_reducible refine Lead.forInArray _ ?_ _ _; intro _ _)
      | (with_reducible refine Lead.forInRange _ ?_ _ _; intro _ _)
      | (with_reducible refine Lead.forInList _ ?_ _ _; intro _ _)
      | (with_reducible refine Lead.mapArray _ ?_ _; intro _)
      | (with_reducible refine Lead.foldlM _ ?_ _ _; intro _ _)
      | with_reducible assumption
      | with_reducible exact Lead.pure _
      | with_reducible exact Lead.stuck _
      | with_reducible exact Lead.unsupported _
      | with_reducible exact Lead.goPanic _
      | with_reducible exact Lead.equal h _ _ _
      | with_reducible apply ih
      | with_reducible refine Lead.bind ?_ (fun _ => ?_)
      | with_reducible refine Lead.map ?_
      | with_reducible refine Lead.iteH (fun _ => ?_) (fun _ => ?_)
      | split
      | dsimp only

theorem Lead.findKey (h : Tab V) (t : TypeId) (k : Value) (l : List MapEntry) : Lead V (Instr.findKey t k l) := by
    unfold Instr.findKey
    repeat' first
      | (with_reducible refine Lead.getObjH h _ ?gk_ (.inr ?gd_) (fun _ _ h => ?_); (case gk_ => intros; rfl); (case gd_ => intro w_; refine ⟨_, _, rfl, ?_⟩; simp [Soft]))
      | (with_reducible refine Lead.forInArray _ ?_ _ _; intro _ _)
      | (with_reducible refine Lead.forInRange _ ?_ _ _; intro _ _)
      | (with_reducible refine Lead.forInList _ ?_ _ _; intro _ _)
      | (with_reducible refine Lead.mapArray _ ?_ _; intro _)
      | (with_reducible refine Lead.foldlM _ ?_ _ _; intro _ _)
      | with_reducible assumption
      | with_reducible exact Lead.pure _
      | with_reducible exact Lead.stuck _
      | with_reducible exact Lead.unsupported _
      | with_reducible exact Lead.goPanic _
      | with_reducible exact Lead.underlying h _
      | with_reducible exact Lead.findAsking h _ _ _ _
      | with_reducible refine Lead.bind ?_ (fun _ => ?_)
      | with_reducible refine Lead.map ?_
      | with_reducible refine Lead.iteH (fun _ => ?_) (fun _ => ?_)
      | split
      | dsimp only

theorem Lead.lookup (h : Tab V) (t : TypeId) (x i : Value) (b : Bool) : Lead V (Instr.lookup t x i b) := by
    unfold Instr.lookup
    repeat' first
      | (with_reducible refine Lead.getObjH h _ ?gk_ (.inr ?gd_) (fun _ _ h => ?_); (case gk_ => intros; rfl); (case gd_ => intro w_; refine ⟨_, _, rfl, ?_⟩; simp [Soft]))
      | (with_reducible refine Lead.forInArray _ ?_ _ _; intro _ _)
      | (with_reducible refine Lead.forInRange _ ?_ _ _; intro _ _)
      | (with_reducible refine Lead.forInList _ ?_ _ _; intro _ _)
      | (with_reducible refine Lead.mapArray _ ?_ _; intro _)
      | (with_reducible refine Lead.foldlM _ ?_ _ _; intro _ _)
      | with_reducible assumption
      | with_reducible exact Lead.pure _
      | with_reducible exact Lead.stuck _
      | with_reducible exact Lead.unsupported _
      | with_reducible exact Lead.goPanic _
      | with_reducible exact Lead.underlying h _
      | with_reducible exact Lead.zeroValue h _
      | with_reducible exact Lead.index h _ _ _
      | with_reducible exact Lead.checkKey h _ _ _ _
      | with_reducible exact Lead.findKey h _ _ _
      | with_reducible refine Lead.bind ?_ (fun _ => ?_)
      | with_reducible refine Lead.map ?_
      | with_reducible refine Lead.iteH (fun _ => ?_) (fun _ => ?_)
      | split
      | dsimp only

theorem Lead.keyThatStays (h : Tab V) (a b : Value) : Lead V (Instr.keyThatStays a b) := by
    unfold Instr.keyThatStays
    repeat' first
      | (with_reducible refine Lead.getObjH h _ ?gk_ (.inr ?gd_) (fun _ _ h => ?_); (case gk_ => intros; rfl); (case gd_ => intro w_; refine ⟨_, _, rfl, ?_⟩; simp [Soft]))
      | (with_reducible refine Lead.forInArray _ ?_ _ _; intro _ _)
      | (with_reducible refine Lead.forInRange _ ?_ _ _; intro _ _)
      | (with_reducible refine Lead.forInList _ ?_ _ _; intro _ _)
      | (with_reducible refine Lead.mapArray _ ?_ _; intro _)
      | (with_reducible refine Lead.foldlM _ ?_ _ _; intro _ _)
      | with_reducible assumption
      | with_reducible exact Lead.pure _
      | with_reducible exact Lead.stuck _
      | with_reducible exact Lead.unsupported _
      | with_reducible exact Lead.goPanic _
      | with_reducible exact Lead.choose _
      | with_reducible refine Lead.bind ?_ (fun _ => ?_)
      | with_reducible refine Lead.map ?_
      | with_reducible refine Lead.iteH (fun _ => ?_) (fun _ => ?_)
      | split
      | dsimp only

theorem Lead.mapUpdate (h : Tab V) (t : TypeId) (m k x : Value) : Lead V (Instr.mapUpdate t m k x) := by
    unfold Instr.mapUpdate
    repeat' first
      | exact Lead.setObj _ _ rfl (by simp [Env.add])
      | (with_reducible refine Lead.getObjH h _ ?gk_ (.inr ?gd_) (fun _ _ h => ?_); (case gk_ => intros; rfl); (case gd_ => intro w_; refine ⟨_, _, rfl, ?_⟩; simp [Soft]))
      | (with_reducible refine Lead.forInArray _ ?_ _ _; intro _ _)
      | (with_reducible refine Lead.forInRange _ ?_ _ _; intro _ _)
      | (with_reducible refine Lead.forInList _ ?_ _ _; intro _ _)
      | (with_reducible refine Lead.mapArray _ ?_ _; intro _)
      | (with_reducible refine Lead.foldlM _ ?_ _ _; intro _ _)
      | with_reducible assumption
      | with_reducible exact Lead.pure _
      | with_reducible exact Lead.stuck _
      | with_reducible exact Lead.unsupported _
      | with_reducible exact Lead.goPanic _
      | with_reducible exact Lead.runtimePanic h _
      | with_reducible exact Lead.underlying h _
      | with_reducible exact Lead.checkKey h _ _ _ _
      | with_reducible exact Lead.findKey h _ _ _
      | with_reducible exact Lead.keyThatStays h _ _
      | with_reducible refine Lead.bind ?_ (fun _ => ?_)
      | with_reducible refine Lead.map ?_
      | with_reducible refine Lead.iteH (fun _ => ?_) (fun _ => ?_)
      | split
      | dsimp only

theorem Lead.mapEntry (h : Tab V) (t : TypeId) (m k : Value) : Lead V (Instr.mapEntry t m k) := by
    unfold Instr.mapEntry
    repeat' first
      | exact Lead.setObj _ _ rfl (by simp [Env.add])
      | (with_reducible refine Lead.getObjH h _ ?gk_ (.inr ?gd_) (fun _ _ h => ?_); (case gk_ => intros; rfl); (case gd_ => intro w_; refine ⟨_, _, rfl, ?_⟩; simp [Soft]))
      | (with_reducible refine Lead.forInArray _ ?_ _ _; intro _ _)
      | (with_reducible refine Lead.forInRange _ ?_ _ _; intro _ _)
      | (with_reducible refine Lead.forInList _ ?_ _ _; intro _ _)
      | (with_reducible refine Lead.mapArray _ ?_ _; intro _)
      | (with_reducible refine Lead.foldlM _ ?_ _ _; intro _ _)
      | with_reducible assumption
      | with_reducible exact Lead.pure _
      | with_reducible exact Lead.stuck _
      | with_reducible exact Lead.unsupported _
      | with_reducible exact Lead.goPanic _
      | with_reducible exact Lead.runtimePanic h _
      | with_reducible exact Lead.underlying h _
      | with_reducible exact Lead.zeroValue h _
      | with_reducible exact Lead.checkKey h _ _ _ _
      | with_reducible exact Lead.findKey h _ _ _
      | with_reducible exact Lead.keyThatStays h _ _
      | with_reducible refine Lead.bind ?_ (fun _ => ?_)
      | with_reducible refine Lead.map ?_
      | with_reducible refine Lead.iteH (fun _ => ?_) (fun _ => ?_)
      | split
      | dsimp only

theorem Lead.entryStore (h : Tab V) (t : TypeId) (m k x : Value) : Lead V (Instr.entryStore t m k x) := by
    unfold Instr.entryStore
    repeat' first
      | exact Lead.setObj _ _ rfl (by simp [Env.add])
      | (with_reducible refine Lead.getObjH h _ ?gk_ (.inr ?gd_) (fun _ _ h => ?_); (case gk_ => intros; rfl); (case gd_ => intro w_; refine ⟨_, _, rfl, ?_⟩; simp [Soft]))
      | (with_reducible refine Lead.forInArray _ ?_ _ _; intro _ _)
      | (with_reducible refine Lead.forInRange _ ?_ _ _; intro _ _)
      | (with_reducible refine Lead.forInList _ ?_ _ _; intro _ _)
      | (with_reducible refine Lead.mapArray _ ?_ _; intro _)
      | (with_reducible refine Lead.foldlM _ ?_ _ _; intro _ _)
      | with_reducible assumption
      | with_reducible exact Lead.pure _
      | with_reducible exact Lead.stuck _
      | with_reducible exact Lead.unsupported _
      | with_reducible exact Lead.goPanic _
      | with_reducible exact Lead.asInt _
      | with_reducible refine Lead.bind ?_ (fun _ => ?_)
      | with_reducible refine Lead.map ?_
      | with_reducible refine Lead.iteH (fun _ => ?_) (fun _ => ?_)
      | split
      | dsimp only

theorem Lead.makeMap (h : Tab V) (t : TypeId) (r : Option Value) : Lead V (Instr.makeMap t r) := by
    unfold Instr.makeMap
    repeat' first
      | exact Lead.newObj _ rfl
      | (with_reducible refine Lead.newObj _ ?_; split <;> rfl)
      | (with_reducible refine Lead.getObjH h _ ?gk_ (.inr ?gd_) (fun _ _ h => ?_); (case gk_ => intros; rfl); (case gd_ => intro w_; refine ⟨_, _, rfl, ?_⟩; simp [Soft]))
      | (with_reducible refine Lead.forInArray _ ?_ _ _; intro _ _)
      | (with_reducible refine Lead.forInRange _ ?_ _ _; intro _ _)
      | (with_reducible refine Lead.forInList _ ?_ _ _; intro _ _)
      | (with_reducible refine Lead.mapArray _ ?_ _; intro _)
      | (with_reducible refine Lead.foldlM _ ?_ _ _; intro _ _)
      | with_reducible assumption
      | with_reducible exact Lead.pure _
      | with_reducible exact Lead.stuck _
      | with_reducible exact Lead.unsupported _
      | with_reducible exact Lead.goPanic _
      | with_reducible exact Lead.underlying h _
      | with_reducible exact Lead.asInt _
      | with_reducible refine Lead.bind ?_ (fun _ => ?_)
      | with_reducible refine Lead.map ?_
      | with_reducible refine Lead.iteH (fun _ => ?_) (fun _ => ?_)
      | split
      | dsimp only

theorem Lead.makeChan (h : Tab V) (t : TypeId) (n : Value) : Lead V (Instr.makeChan t n) := by
    unfold Instr.makeChan
    repeat' first
      | exact Lead.newObj _ rfl
      | (with_reducible refine Lead.newObj _ ?_; split <;> rfl)
      | (with_reducible refine Lead.getObjH h _ ?gk_ (.inr ?gd_) (fun _ _ h => ?_); (case gk_ => intros; rfl); (case gd_ => intro w_; refine ⟨_, _, rfl, ?_⟩; simp [Soft]))
      | (with_reducible refine Lead.forInArray _ ?_ _ _; intro _ _)
      | (with_reducible refine Lead.forInRange _ ?_ _ _; intro _ _)
      | (with_reducible refine Lead.forInList _ ?_ _ _; intro _ _)
      | (with_reducible refine Lead.mapArray _ ?_ _; intro _)
      | (with_reducible refine Lead.foldlM _ ?_ _ _; intro _ _)
      | with_reducible assumption
      | with_reducible exact Lead.pure _
      | with_reducible exact Lead.stuck _
      | with_reducible exact Lead.unsupported _
      | with_reducible exact Lead.goPanic _
      | with_reducible exact Lead.runtimePanic h _
      | with_reducible exact Lead.underlying h _
      | with_reducible exact Lead.typeInfo h _
      | with_reducible exact Lead.asInt _
      | with_reducible refine Lead.bind ?_ (fun _ => ?_)
      | with_reducible refine Lead.map ?_
      | with_reducible refine Lead.iteH (fun _ => ?_) (fun _ => ?_)
      | split
      | dsimp only

theorem Lead.range (h : Tab V) (t : TypeId) (x : Value) : Lead V (Instr.range t x) := by
    unfold Instr.range
    refine Lead.bind (Lead.underlying h _) fun d => ?_
    have fin : ∀ (V : Env) (it : Obj), Obj.calm it = true → Lead V (Go.newObj it >>= fun r => (Pure.pure (Value.pointer (some ⟨r, 0, none⟩)) : Sem Value)) := fun V it hi => Lead.bind (Lead.newObj it hi) fun _ => Lead.pure _
    split
    · exact fin _ _ rfl
    · exact fin _ _ rfl
    · show Lead V (Sem.bind (Sem.bind (Go.getObj _) _) _)
      rw [Sem.bind_assoc']
      refine Lead.getObjK _ (by intros; rfl) (.inr (by intros; exact ⟨_, _, rfl, by simp [Soft]⟩)) fun o _ => ?_
      cases o with
      | map es clock => exact fin _ (.mapIter (some _) clock #[] clock) rfl
      | _ => exact Lead.soft _
    · exact Lead.soft _

theorem Lead.next (h : Tab V) (i : Value) (t : TypeId) : Lead V (Instr.next i false t) := by
    unfold Instr.next
    repeat' first
      | exact Lead.setObj _ _ rfl (by simp [Env.add])
      | (with_reducible refine Lead.program ?eq_ ?_; (case eq_ => simp only [tables_holdsPacked h.tables, tables_stoodInHeld h.tables, tables_depth h.tables, tables_globals h.tables, tables_eqGuard h.tables, tables_info h.tables]))
      | (with_reducible refine Lead.getObjH h _ ?gk_ (.inr ?gd_) (fun _ _ h => ?_); (case gk_ => intros; rfl); (case gd_ => intro w_; refine ⟨_, _, rfl, ?_⟩; simp [Soft]))
      | (with_reducible refine Lead.forInArray _ ?_ _ _; intro _ _)
      | (with_reducible refine Lead.forInRange _ ?_ _ _; intro _ _)
      | (with_reducible refine Lead.forInList _ ?_ _ _; intro _ _)
      | (with_reducible refine Lead.mapArray _ ?_ _; intro _)
      | (with_reducible refine Lead.foldlM _ ?_ _ _; intro _ _)
      | with_reducible assumption
      | with_reducible exact Lead.pure _
      | with_reducible exact Lead.stuck _
      | with_reducible exact Lead.unsupported _
      | with_reducible exact Lead.goPanic _
      | with_reducible exact Lead.runtimePanic h _
      | with_reducible exact Lead.zeroValue h _
      | with_reducible exact Lead.elemOf h _
      | with_reducible exact Lead.asInt _
      | with_reducible exact Lead.asAddr h _
      | with_reducible exact Lead.load _ _
      | with_reducible exact Lead.store _ _ _
      | with_reducible exact Lead.choose _
      | with_reducible exact Lead.slice h _ _ _ _ _
      | with_reducible exact Lead.lookup h _ _ _ _
      | with_reducible exact Lead.range h _ _
      | with_reducible refine Lead.bind ?_ (fun _ => ?_)
      | with_reducible refine Lead.map ?_
      | with_reducible refine Lead.iteH (fun _ => ?_) (fun _ => ?_)
      | split
      | dsimp only

theorem Lead.entry (h : Tab V) (i : Value) : Lead V (Instr.entry i) := by
    unfold Instr.entry
    repeat' first
      | (with_reducible refine Lead.program ?eq_ ?_; (case eq_ => simp only [tables_holdsPacked h.tables, tables_stoodInHeld h.tables, tables_depth h.tables, tables_globals h.tables, tables_eqGuard h.tables, tables_info h.tables]))
      | (with_reducible refine Lead.getObjH h _ ?gk_ (.inr ?gd_) (fun _ _ h => ?_); (case gk_ => intros; rfl); (case gd_ => intro w_; refine ⟨_, _, rfl, ?_⟩; simp [Soft]))
      | (with_reducible refine Lead.forInArray _ ?_ _ _; intro _ _)
      | (with_reducible refine Lead.forInRange _ ?_ _ _; intro _ _)
      | (with_reducible refine Lead.forInList _ ?_ _ _; intro _ _)
      | (with_reducible refine Lead.mapArray _ ?_ _; intro _)
      | (with_reducible refine Lead.foldlM _ ?_ _ _; intro _ _)
      | with_reducible assumption
      | with_reducible exact Lead.pure _
      | with_reducible exact Lead.stuck _
      | with_reducible exact Lead.unsupported _
      | with_reducible exact Lead.goPanic _
      | with_reducible exact Lead.asInt _
      | with_reducible exact Lead.asAddr h _
      | with_reducible exact Lead.load _ _
      | with_reducible exact Lead.frozen _
      | with_reducible exact Lead.slice h _ _ _ _ _
      | with_reducible exact Lead.noView _
      | with_reducible exact Lead.range h _ _
      | with_reducible refine Lead.bind ?_ (fun _ => ?_)
      | with_reducible refine Lead.map ?_
      | with_reducible refine Lead.iteH (fun _ => ?_) (fun _ => ?_)
      | split
      | dsimp only

theorem Lead.delete_ (h : Tab V) (a : Array TypeId) (t : TypeId) (x : Array Value) : Lead V (Builtin.delete_ a t x) := by
    unfold Builtin.delete_
    repeat' first
      | exact Lead.setObj _ _ rfl (by simp [Env.add])
      | (with_reducible refine Lead.getObjH h _ ?gk_ (.inr ?gd_) (fun _ _ h => ?_); (case gk_ => intros; rfl); (case gd_ => intro w_; refine ⟨_, _, rfl, ?_⟩; simp [Soft]))
      | (with_reducible refine Lead.forInArray _ ?_ _ _; intro _ _)
      | (with_reducible refine Lead.forInRange _ ?_ _ _; intro _ _)
      | (with_reducible refine Lead.forInList _ ?_ _ _; intro _ _)
      | (with_reducible refine Lead.mapArray _ ?_ _; intro _)
      | (with_reducible refine Lead.foldlM _ ?_ _ _; intro _ _)
      | with_reducible assumption
      | with_reducible exact Lead.pure _
      | with_reducible exact Lead.stuck _
      | with_reducible exact Lead.unsupported _
      | with_reducible exact Lead.goPanic _
      | with_reducible exact Lead.underlying h _
      | with_reducible exact Lead.checkKey h _ _ _ _
      | with_reducible exact Lead.findKey h _ _ _
      | with_reducible refine Lead.bind ?_ (fun _ => ?_)
      | with_reducible refine Lead.map ?_
      | with_reducible refine Lead.iteH (fun _ => ?_) (fun _ => ?_)
      | split
      | dsimp only

theorem Lead.typeAssert (h : Tab V) (x : Value) (s a : TypeId) (b : Bool) : Lead V (Instr.typeAssert x s a b) := by
    unfold Instr.typeAssert
    repeat' first
      | (with_reducible refine Lead.program ?eq_ ?_; (case eq_ => simp only [tables_holdsPacked h.tables, tables_stoodInHeld h.tables, tables_depth h.tables, tables_globals h.tables, tables_eqGuard h.tables, tables_info h.tables]))
      | (with_reducible refine Lead.getObjH h _ ?gk_ (.inr ?gd_) (fun _ _ h => ?_); (case gk_ => intros; rfl); (case gd_ => intro w_; refine ⟨_, _, rfl, ?_⟩; simp [Soft]))
      | (with_reducible refine Lead.forInArray _ ?_ _ _; intro _ _)
      | (with_reducible refine Lead.forInRange _ ?_ _ _; intro _ _)
      | (with_reducible refine Lead.forInList _ ?_ _ _; intro _ _)
      | (with_reducible refine Lead.mapArray _ ?_ _; intro _)
      | (with_reducible refine Lead.foldlM _ ?_ _ _; intro _ _)
      | with_reducible assumption
      | with_reducible exact Lead.pure _
      | with_reducible exact Lead.stuck _
      | with_reducible exact Lead.unsupported _
      | with_reducible exact Lead.goPanic _
      | with_reducible exact Lead.runtimePanic h _
      | with_reducible exact Lead.underlying h _
      | with_reducible exact Lead.typeInfo h _
      | with_reducible exact Lead.zeroValue h _
      | with_reducible exact Lead.field h _ _ _
      | with_reducible refine Lead.bind ?_ (fun _ => ?_)
      | with_reducible refine Lead.map ?_
      | with_reducible refine Lead.iteH (fun _ => ?_) (fun _ => ?_)
      | split
      | dsimp only
end
end Go.Proofs.YtnikgcedifdaeaaGreatDoor.Lift
end

section
/- What asks a block's shape and goes on by it: walked alike, for in the shadow's empty blocks it comes to an end. -/
namespace Go.Proofs.YtnikgcedifdaeaaGreatDoor.Lift
open Go Go.Conc
set_option linter.unusedSimpArgs false
set_option linter.unusedVariables false
section
variable {V : Env}
theorem Lead.shapeK {β : Type} {k : Option (TypeId × Nat) → Sem β} (r : Nat) (hl : ∀ o, Lead V (k o)) (hd : ∀ w, ∃ e w', (k none).run V.sh w = .halt e w' ∧ ¬ Soft e) : Lead V (Go.shape r >>= k) := by
  intro Bad w1 w2 m es2 hB hS hT
  show Leads V Bad m w1 w2 es2 ((Sem.bind (Go.shape r) k).run V.sh w1) ((Sem.bind (Go.shape r) k).runT V.re w2 es2)
  rw [Sem.run_bind' V.sh (Go.shape r) k w1, Sem.runT_bind' V.re (Go.shape r) k w2 es2]
  simp only [Go.shape, Sem.run, Sem.runT, Result.andThen]
  by_cases hb : Bad r
  · have hsh : w1.shape? r = none := by
      unfold World.shape?
      rw [hS.poison r hb]
      rfl
    rw [hsh]
    obtain ⟨e, w', h1, h2⟩ := hd w1
    rw [h1]
    exact fun h0 => absurd h0 h2
  · rw [hS.shapeSome hb]
    exact hl _ Bad w1 w2 m es2 hB hS hT
theorem tables_cellOfByte {P' P : Program} (h : P'.toTables = P.toTables) : ∀ (n : Nat), cellOfByte P' n = cellOfByte P n := by
  intro n
  induction n with
  | zero => funext t o; rfl
  | succ n ih =>
    funext t o
    unfold cellOfByte
    rw [ih]
    simp only [tables_under h, tables_cellsOf h, tables_bytesOf h]
theorem tables_cellAtBytes {P' P : Program} (h : P'.toTables = P.toTables) (n : Nat) : cellAtBytes P' n = cellAtBytes P n := by
  funext e c o b
  unfold cellAtBytes
  simp only [tables_cellsOf h, tables_bytesOf h, tables_byteOfCell h, tables_cellOfByte h]
theorem Lead.unsafeAdd_ (h : Tab V) (a : Array TypeId) (t : TypeId) (x : Array Value) : Lead V (Builtin.unsafeAdd_ a t x) := by
  have rest : ∀ (n : Int) (ptr : Option Addr), Lead V (match ptr with
      | some a => (do
        let some (e, cells) ← Go.shape a.block | Go.unsupported (.unsafePointer "Add")
        let p ← Go.program
        match cellAtBytes p p.depth e (cells / p.cellsOf e) a.off n with
        | some off => Pure.pure (Value.pointer (some { a with off }))
        | none => Go.unsupported (.unsafePointer "Add") : Sem Value)
      | _ => Go.unsupported (.unsafePointer "Add")) := by
    intro n ptr
    cases ptr with
    | some a =>
      refine Lead.shapeK _ (fun o => ?_) (fun w => ?_)
      · split
        · refine Lead.program (by simp only [tables_cellAtBytes h.tables, tables_cellsOf h.tables, tables_depth h.tables]) ?_
          split
          · exact Lead.pure _
          · exact Lead.unsupported _
        · exact Lead.unsupported _
      · exact ⟨_, _, rfl, by simp [Soft]⟩
    | none => exact Lead.unsupported _
  unfold Builtin.unsafeAdd_
  have bad : Lead V (Go.stuck "unsafe.Add: a pointer and an integer expected" : Sem Value) := Lead.stuck _
  by_cases hx : ∃ ptr l, x = #[Value.pointer ptr, l]
  · obtain ⟨ptr, l, rfl⟩ := hx
    refine Lead.bind (Lead.asInt _) fun n => ?_
    refine Lead.iteH (fun _ => ?_) (fun _ => ?_)
    · cases ptr with
      | some a =>
        refine Lead.bind (Lead.viewAt _) fun o => ?_
        refine Lead.iteH (fun _ => ?_) (fun _ => Lead.pure _)
        exact Lead.bind (Lead.unsupported _) fun _ => Lead.pure _
      | none =>
        refine Lead.bind (Lead.unsupported _) fun _ => ?_
        refine Lead.iteH (fun _ => ?_) (fun _ => ?_)
        · exact Lead.bind (Lead.unsupported _) fun _ => rest n none
        · exact rest n none
    · refine Lead.iteH (fun _ => ?_) (fun _ => ?_)
      · exact Lead.bind (Lead.unsupported _) fun _ => rest n _
      · exact rest n _
  · obtain ⟨l⟩ := x
    match l, hx with
    | [], _ => exact bad
    | [p], _ => exact bad
    | [p, q], hx => cases p <;> first | exact bad | exact absurd ⟨_, _, rfl⟩ hx
    | p :: q :: r :: s, _ => exact bad
theorem Lead.asNumber (a : Addr) (b : Bool) : Lead V (Go.asNumber a b) := Lead.bind (Lead.newObj _ rfl) fun _ => Lead.pure _
theorem Lead.movedNumber (h : Tab V) (t : TypeId) (x y : Value) : Lead V (Go.movedNumber t x y) := by
  unfold Go.movedNumber
  refine Lead.bind (Lead.underlying h _) fun d => ?_
  have rest : Lead V (match x with
      | .pointer (some n) => (do
        let (a, lost) ← Go.behindNumber n
        match ← Builtin.unsafeAdd_ #[] t #[.pointer (some a), y] with
        | .pointer (some b) => Go.asNumber b lost
        | v => Pure.pure v : Sem Value)
      | _ => Builtin.unsafeAdd_ #[] t #[x, y]) := by
    split
    · refine Lead.bind (Lead.behindNumber _) fun p => Lead.bind (Lead.unsafeAdd_ h _ _ _) fun v => ?_
      split
      · exact Lead.asNumber _ _
      · exact Lead.pure _
    · exact Lead.unsafeAdd_ h _ _ _
  refine Lead.iteH (fun _ => ?_) (fun _ => ?_)
  · exact Lead.bind (Lead.unsupported _) fun _ => rest
  · exact rest
theorem Lead.movedPointer (h : Tab V) (t : TypeId) (x y : Value) : Lead V (Go.movedPointer t x y) := by
  unfold Go.movedPointer
  split
  · refine Lead.bind (Lead.numberAt _) fun o => ?_
    refine Lead.iteH (fun _ => ?_) (fun _ => ?_)
    · exact Lead.bind (Lead.unsupported _) fun _ => Lead.unsafeAdd_ h _ _ _
    · exact Lead.unsafeAdd_ h _ _ _
  · exact Lead.unsafeAdd_ h _ _ _
theorem Lead.twoPlaces (h : Tab V) (a b : Addr) : Lead V (Op.twoPlaces a b) := by
  unfold Op.twoPlaces
  refine Lead.program (by simp only [tables_globals h.tables]) ?_
  refine Lead.iteH (fun _ => ?_) (fun hc => ?_)
  · by_cases hc : a.block < V.re.globals.size ∧ b.block < V.re.globals.size
    · exact Lead.bind (Lead.unsupported _) fun _ => Lead.bind (Lead.byteOfG h a hc.1) fun _ => Lead.bind (Lead.byteOfG h b hc.2) fun _ => Lead.pure _
    · refine Lead.dead fun w => ⟨_, w, rfl, by simp [Soft]⟩
  · simp only [Bool.or_eq_true, bne_iff_ne, ne_eq, decide_eq_true_eq, not_or, Decidable.not_not] at hc
    exact Lead.bind (Lead.byteOfG h a (by omega)) fun _ => Lead.bind (Lead.byteOfG h b (by omega)) fun _ => Lead.pure _
theorem Lead.addrSub (h : Tab V) (k : IntKind) (a b : Addr) : Lead V (Op.addrSub k a b) := Lead.bind (Lead.twoPlaces h a b) fun _ => Lead.pure _
theorem Lead.addrCmp (h : Tab V) (o : BinOp) (a b : Addr) : Lead V (Op.addrCmp o a b) := by
  unfold Op.addrCmp
  refine Lead.bind (Lead.twoPlaces h a b) fun p => ?_
  dsimp only
  split <;> first | exact Lead.pure _ | exact Lead.unsupported _
/-- The shape of a block is asked: what follows may lean on its not being shunned. -/
theorem Lead.shapeH {β : Type} {k : Option (TypeId × Nat) → Sem β} (h : Tab V) (r : Nat) (hd : ∀ w, ∃ e w', (k none).run V.sh w = .halt e w' ∧ ¬ Soft e) (hl : ∀ o, Tab (V.add r) → Lead (V.add r) (k o)) : Lead V (Go.shape r >>= k) := by
  intro Bad w1 w2 m es2 hB hS hT
  show Leads V Bad m w1 w2 es2 ((Sem.bind (Go.shape r) k).run V.sh w1) ((Sem.bind (Go.shape r) k).runT V.re w2 es2)
  rw [Sem.run_bind' V.sh (Go.shape r) k w1, Sem.runT_bind' V.re (Go.shape r) k w2 es2]
  simp only [Go.shape, Sem.run, Sem.runT, Result.andThen]
  by_cases hb : Bad r
  · have hsh : w1.shape? r = none := by
      unfold World.shape?
      rw [hS.poison r hb]
      rfl
    rw [hsh]
    obtain ⟨e, w', h1, h2⟩ := hd w1
    rw [h1]
    exact fun h0 => absurd h0 h2
  · rw [hS.shapeSome hb]
    have h3 := hl (w1.shape? r) (h.add r) Bad w1 w2 m es2 (fun i hi => hi.elim (hB i) (fun e => e ▸ hb)) hS.add hT
    unfold Leads at h3 ⊢
    rw [show (V.add r).sh = V.sh from rfl] at h3
    revert h3
    cases (k (w1.shape? r)).run V.sh w1 with
    | ok a v1 =>
      intro h3 hm
      obtain ⟨v2, n, e1, o1⟩ := h3 hm
      exact ⟨v2, n, e1, o1.strip⟩
    | halt a v1 =>
      intro h3 hh hm
      obtain ⟨rd, v2, n, e1, o1⟩ := h3 hh hm
      exact ⟨rd, v2, n, e1, o1.strip⟩
theorem Lead.addrMod (h : Tab V) (k : IntKind) (a : Addr) (n : Int) : Lead V (Op.addrMod k a n) := by
  unfold Op.addrMod
  refine Lead.shapeH h _ (fun w => ⟨_, _, rfl, by simp [Soft]⟩) fun o h2 => ?_
  split
  · refine Lead.bind (Lead.typeInfo h2 _) fun i => ?_
    dsimp only
    refine Lead.iteH (fun _ => ?_) (fun _ => ?_)
    · exact Lead.bind (Lead.unsupported _) fun _ => Lead.bind (Lead.byteOf h2 _ (.inr rfl)) fun _ => Lead.pure _
    · exact Lead.bind (Lead.byteOf h2 _ (.inr rfl)) fun _ => Lead.pure _
  · exact Lead.unsupported _
theorem Lead.binOp (h : Tab V) (o : BinOp) (t : TypeId) (x y : Value) : Lead V (Go.binOp o t x y) := by
  unfold Go.binOp
  split <;> first
    | exact Lead.shift h _ _ _ _ _
    | (split <;> first | exact Lead.stuck _ | (split <;> first | exact Lead.intArith h _ _ _ _ | exact Lead.intDiv h _ _ _ _ | exact Lead.intBits h _ _ _ _ | exact Lead.intCmp h _ _ _ | exact Lead.floatArith h _ _ _ _ | exact Lead.floatCmp h _ _ _ _) | exact Lead.complexOp h _ _ _ _ _ _)
    | exact Lead.stringOp h _ _ _
    | exact Lead.bind (Lead.equal h _ _ _) fun _ => Lead.pure _
    | exact Lead.bind (Lead.underlying h _) fun _ => Lead.iteH (fun _ => Lead.movedPointer h _ _ _) (fun _ => Lead.movedNumber h _ _ _)
    | exact Lead.movedNumber h _ _ _
    | exact Lead.bind (Lead.behindNumber _) fun _ => Lead.bind (Lead.behindNumber _) fun _ => Lead.addrSub h _ _ _
    | exact Lead.bind (Lead.behindNumber _) fun _ => Lead.bind (Lead.behindNumber _) fun _ => Lead.addrCmp h _ _ _
    | exact Lead.bind (Lead.behindNumber _) fun _ => Lead.addrMod h _ _ _
    | exact Lead.unsupported _
    | exact Lead.stuck _
/-- The byte at which a place lies: in the shadow it comes to an end at the hollow block. -/
theorem Lead.byteOfAny (h : Tab V) (a : Addr) : Lead V (Go.byteOf a) := by
  unfold Go.byteOf
  split
  · exact Lead.pure _
  · refine Lead.program (by simp only [tables_cellsOf h.tables, tables_bytesOf h.tables, tables_byteOfCell h.tables, tables_depth h.tables]) ?_
    refine Lead.bind (Lead.noView _) fun _ => Lead.shapeH h _ (fun w => ⟨_, _, rfl, by simp [Soft]⟩) fun o h2 => ?_
    split
    · dsimp only
      split
      · exact Lead.pure _
      · split
        · exact Lead.pure _
        · exact Lead.stuck _
    · exact Lead.stuck _
theorem Lead.partAt (h : Tab V) (a : Addr) (c b : Nat) : Lead V (Go.partAt a c b) := by
  unfold Go.partAt
  exact Lead.bind (Lead.byteOfAny h _) fun _ => Lead.bind (Lead.byteOfAny h _) fun _ => Lead.pure _
theorem Lead.fieldPlace (h : Tab V) (a : Addr) (f : Field) : Lead V (Go.fieldPlace a f) := by
  unfold Go.fieldPlace
  exact Lead.bind (Lead.sizeOf h _) fun _ => Lead.ite (Lead.partAt h _ _ _) (Lead.pure _)
theorem Lead.fieldAt (h : Tab V) (s : TypeId) (a : Value) (f : Nat) : Lead V (Instr.fieldAt s a f) := by
  unfold Instr.fieldAt
  refine Lead.bind (Lead.underlying h _) fun d => ?_
  split
  · split
    · exact Lead.bind (Lead.sureAddr _) fun _ => Lead.bind (Lead.fieldPlace h _ _) fun _ => Lead.pure _
    · exact Lead.stuck _
  · exact Lead.stuck _
theorem Lead.placeGet (h : Tab V) (t : TypeId) (x : Place) : Lead V (x.get t) := by
  cases x with
  | val v => exact Lead.pure _
  | var a => exact Lead.loadVar h _ _
theorem Lead.follow (h : Tab V) : ∀ (l : List FieldStep) (t : TypeId) (x : Place), Lead V (Go.follow l t x)
  | [], _, _ => Lead.pure _
  | s :: l, t, x => by
    unfold Go.follow
    refine Lead.bind (Lead.underlying h _) fun d => ?_
    split
    · split
      · refine Lead.iteH (fun _ => ?_) (fun _ => ?_)
        · exact Lead.bind (Lead.placeGet h _ _) fun _ => Lead.bind (Lead.asAddr h _) fun _ => Lead.bind (Lead.fieldPlace h _ _) fun _ => Lead.follow h l _ _
        · split
          · exact Lead.bind (Lead.fieldPlace h _ _) fun _ => Lead.follow h l _ _
          · exact Lead.bind (Lead.part h _ _ _) fun _ => Lead.follow h l _ _
          · exact Lead.stuck _
      · exact Lead.stuck _
    · exact Lead.stuck _
end
end Go.Proofs.YtnikgcedifdaeaaGreatDoor.Lift
end

section
/- Methods, calls, conversions, 'append': walked alike; printed by a program of mine (gen_ops4.py). -/
namespace Go.Proofs.YtnikgcedifdaeaaGreatDoor.Lift
open Go Go.Conc
set_option linter.unusedVariables false
set_option linter.unusedSimpArgs false
section
variable {V : Env}
theorem Lead.ssaW (h : Tab V) (a : Array TypeId) (t : TypeId) (p : Value) (s m : ByteArray) : Lead V (Builtin.ssaWrapNilChk_ a t #[p, .string s, .string m]) := by
    unfold Builtin.ssaWrapNilChk_
    cases p <;> first | exact Lead.stuck _ | skip
    rename_i o
    cases o with
    | some _ => exact Lead.pure _
    | none =>
    refine Lead.bind (Lead.choose _) fun c => ?_
    dsimp only
    repeat' first
      | exact Lead.setObj _ _ rfl (by simp [Env.add])
      | exact Lead.newObj _ rfl
      | (with_reducible refine Lead.newObj _ ?_; split <;> rfl)
      | (with_reducible refine Lead.program ?eq_ ?_; (case eq_ => simp only [tables_holdsPacked h.tables, tables_stoodInHeld h.tables, tables_depth h.tables, tables_globals h.tables, tables_eqGuard h.tables, tables_info h.tables]))
      | (refine Lead.byteOfG h _ ?_; simp_all; done)
      | (refine Lead.byteOfG h _ ?_; simp_all; omega)
      | (with_reducible refine Lead.getObjH h _ ?gk_ (.inr ?gd_) (fun _ _ h => ?_); (case gk_ => intros; rfl); (case gd_ => intro w_; refine ⟨_, _, rfl, ?_⟩; simp [Soft]))
      | (with_reducible refine Lead.forInArray _ ?_ _ _; intro _ _)
      | (with_reducible refine Lead.forInRange _ ?_ _ _; intro _ _)
      | (with_reducible refine Lead.forInList _ ?_ _ _; intro _ _)
      | (with_reducible refine Lead.mapArray _ ?_ _; intro _)
      | (with_reducible refine Lead.foldlM _ ?_ _ _; intro _ _)
      | with_reducible assumption
      | with_reducible exact Lead.pure _
      | with_reducible exact Lead.stuck _
      | with_reducible exact Lead.unsupported _
      | with_reducible exact Lead.goPanic _

      | with_reducible exact Lead.runtimePanic h _
      | with_reducible exact Lead.boundsPanic h _ _ _ _
      | with_reducible exact Lead.underlying h _
      | with_reducible exact Lead.typeInfo h _
      | with_reducible exact Lead.zeroValue h _
      | with_reducible exact Lead.sizeOf h _
      | with_reducible exact Lead.isAgg h _
      | with_reducible exact Lead.loadCells _ _
      | with_reducible exact Lead.storeCells _ _ _
      | with_reducible exact Lead.loadVar h _ _
      | with_reducible exact Lead.storeVar h _ _ _
      | with_reducible exact Lead.newRow _ _
      | with_reducible exact Lead.newVar _ _
      | with_reducible exact Lead.elemOf h _
      | with_reducible exact Lead.part h _ _ _
      | with_reducible exact Lead.asIntOf _
      | with_reducible exact Lead.asInt _
      | with_reducible exact Lead.asBool _
      | with_reducible exact Lead.asString _
      | with_reducible exact Lead.asAgg _
      | with_reducible exact Lead.asAddr h _
      | with_reducible exact Lead.sureAddr _
      | with_reducible exact Lead.load _ _
      | with_reducible exact Lead.store _ _ _
      | with_reducible exact Lead.choose _
      | with_reducible exact Lead.frozen _
      | with_reducible exact Lead.askRoom _
      | with_reducible exact Lead.typeStr h _
      | with_reducible exact Lead.loadAt h _ _
      | with_reducible exact Lead.storeAt h _ _ _
      | with_reducible exact Lead.alloc h _ _ _
      | with_reducible exact Lead.box h _ _
      | with_reducible exact Lead.field h _ _ _
      | with_reducible exact Lead.index h _ _ _
      | with_reducible exact Lead.indexAt h _ _ _
      | with_reducible exact Lead.sliceBound h _ _ _
      | with_reducible exact Lead.sliceBounds h _ _ _ _ _ _
      | with_reducible exact Lead.slice h _ _ _ _ _
      | with_reducible exact Lead.sliceAt h _ _ _ _ _
      | with_reducible exact Lead.arrayAt h _ _
      | with_reducible exact Lead.makeInterface h _ _
      | with_reducible exact Lead.makeFunc h _ _ _
      | with_reducible exact Lead.extract h _ _
      | with_reducible exact Lead.buildSlice h _ _ _
      | with_reducible exact Lead.makeSlice h _ _ _
      | with_reducible exact Lead.intArith h _ _ _ _
      | with_reducible exact Lead.intDiv h _ _ _ _
      | with_reducible exact Lead.intBits h _ _ _ _
      | with_reducible exact Lead.shift h _ _ _ _ _
      | with_reducible exact Lead.intCmp h _ _ _
      | with_reducible exact Lead.stringOp h _ _ _
      | with_reducible exact Lead.unary h _ _
      | with_reducible exact Lead.len_ h _ _ _
      | with_reducible exact Lead.cap_ h _ _ _
      | with_reducible exact Lead.lenOf h _
      | with_reducible exact Lead.firstCells h _ _ _
      | with_reducible exact Lead.copy_ h _ _ _
      | with_reducible exact Lead.checkKey h _ _ _ _
      | with_reducible exact Lead.bytesToString h _
      | with_reducible exact Lead.behindNumber _
      | with_reducible exact Lead.sameAddr _ _
      | with_reducible exact Lead.samePointer _ _
      | with_reducible exact Lead.noView _
      | with_reducible exact Lead.viewAt _
      | with_reducible exact Lead.numberAt _
      | with_reducible exact Lead.equalIn h _ _ _ _
      | with_reducible exact Lead.eqGuardIn h _ _ _ _
      | with_reducible exact Lead.equal h _ _ _
      | with_reducible exact Lead.eqGuard h _ _ _ _ _ _
      | with_reducible exact Lead.floatArith h _ _ _ _
      | with_reducible exact Lead.floatCmp h _ _ _ _
      | with_reducible exact Lead.floatToFloat h _ _ _
      | with_reducible exact Lead.floatToInt h _ _ _
      | with_reducible exact Lead.cArith h _ _ _ _
      | with_reducible exact Lead.cCmp h _ _ _ _
      | with_reducible exact Lead.cConv h _ _ _
      | with_reducible exact Lead.cadd h _ _
      | with_reducible exact Lead.csub h _ _
      | with_reducible exact Lead.cmul h _ _
      | with_reducible exact Lead.cquo h _ _
      | with_reducible exact Lead.cProduct h _ _ _ _
      | with_reducible exact Lead.cCorrected h _ _ _ _ _
      | with_reducible exact Lead.cQuotient h _ _ _ _
      | with_reducible exact Lead.complexOp h _ _ _ _ _ _
      | with_reducible exact Lead.complexToComplex h _ _ _ _
      | with_reducible exact Lead.max2 h _ _
      | with_reducible exact Lead.min2 h _ _
      | with_reducible exact Lead.max_ h _ _ _
      | with_reducible exact Lead.min_ h _ _ _
      | with_reducible exact Lead.clear_ h _ _ _
      | with_reducible exact Lead.stringToRunes h _ _
      | with_reducible exact Lead.runesToString h _
      | with_reducible exact Lead.findAsking h _ _ _ _
      | with_reducible exact Lead.findKey h _ _ _
      | with_reducible exact Lead.lookup h _ _ _ _
      | with_reducible exact Lead.keyThatStays h _ _
      | with_reducible exact Lead.mapUpdate h _ _ _ _
      | with_reducible exact Lead.mapEntry h _ _ _
      | with_reducible exact Lead.entryStore h _ _ _ _
      | with_reducible exact Lead.makeMap h _ _
      | with_reducible exact Lead.makeChan h _ _
      | with_reducible exact Lead.range h _ _
      | with_reducible exact Lead.next h _ _
      | with_reducible exact Lead.entry h _
      | with_reducible exact Lead.delete_ h _ _ _
      | with_reducible exact Lead.typeAssert h _ _ _ _
      | with_reducible exact Lead.fieldPlace h _ _
      | with_reducible exact Lead.fieldAt h _ _ _
      | with_reducible exact Lead.placeGet h _ _
      | with_reducible exact Lead.follow h _ _ _
      | with_reducible exact Lead.binOp h _ _ _ _
      | with_reducible exact Lead.movedNumber h _ _ _
      | with_reducible refine Lead.bind ?_ (fun _ => ?_)
      | with_reducible refine Lead.map ?_
      | with_reducible refine Lead.iteH (fun _ => ?_) (fun _ => ?_)
      | split
      | dsimp only

theorem Lead.receiverAt (h : Tab V) (t : TypeId) (x : Place) (b : Bool) (w : Option String) : Lead V (Go.receiverAt t x b w) := by
    unfold Go.receiverAt
    unfold strVal
    repeat' first
      | exact Lead.setObj _ _ rfl (by simp [Env.add])
      | exact Lead.newObj _ rfl
      | (with_reducible refine Lead.newObj _ ?_; split <;> rfl)
      | (with_reducible refine Lead.program ?eq_ ?_; (case eq_ => simp only [tables_holdsPacked h.tables, tables_stoodInHeld h.tables, tables_depth h.tables, tables_globals h.tables, tables_eqGuard h.tables, tables_info h.tables]))
      | (refine Lead.byteOfG h _ ?_; simp_all; done)
      | (refine Lead.byteOfG h _ ?_; simp_all; omega)
      | (with_reducible refine Lead.getObjH h _ ?gk_ (.inr ?gd_) (fun _ _ h => ?_); (case gk_ => intros; rfl); (case gd_ => intro w_; refine ⟨_, _, rfl, ?_⟩; simp [Soft]))
      | (with_reducible refine Lead.forInArray _ ?_ _ _; intro _ _)
      | (with_reducible refine Lead.forInRange _ ?_ _ _; intro _ _)
      | (with_reducible refine Lead.forInList _ ?_ _ _; intro _ _)
      | (with_reducible refine Lead.mapArray _ ?_ _; intro _)
      | (with_reducible refine Lead.foldlM _ ?_ _ _; intro _ _)
      | with_reducible assumption
      | with_reducible exact Lead.pure _
      | with_reducible exact Lead.stuck _
      | with_reducible exact Lead.unsupported _
      | with_reducible exact Lead.goPanic _

      | with_reducible exact Lead.runtimePanic h _
      | with_reducible exact Lead.boundsPanic h _ _ _ _
      | with_reducible exact Lead.underlying h _
      | with_reducible exact Lead.typeInfo h _
      | with_reducible exact Lead.zeroValue h _
      | with_reducible exact Lead.sizeOf h _
      | with_reducible exact Lead.isAgg h _
      | with_reducible exact Lead.loadCells _ _
      | with_reducible exact Lead.storeCells _ _ _
      | with_reducible exact Lead.loadVar h _ _
      | with_reducible exact Lead.storeVar h _ _ _
      | with_reducible exact Lead.newRow _ _
      | with_reducible exact Lead.newVar _ _
      | with_reducible exact Lead.elemOf h _
      | with_reducible exact Lead.part h _ _ _
      | with_reducible exact Lead.asIntOf _
      | with_reducible exact Lead.asInt _
      | with_reducible exact Lead.asBool _
      | with_reducible exact Lead.asString _
      | with_reducible exact Lead.asAgg _
      | with_reducible exact Lead.asAddr h _
      | with_reducible exact Lead.sureAddr _
      | with_reducible exact Lead.load _ _
      | with_reducible exact Lead.store _ _ _
      | with_reducible exact Lead.choose _
      | with_reducible exact Lead.frozen _
      | with_reducible exact Lead.askRoom _
      | with_reducible exact Lead.typeStr h _
      | with_reducible exact Lead.loadAt h _ _
      | with_reducible exact Lead.storeAt h _ _ _
      | with_reducible exact Lead.alloc h _ _ _
      | with_reducible exact Lead.box h _ _
      | with_reducible exact Lead.field h _ _ _
      | with_reducible exact Lead.index h _ _ _
      | with_reducible exact Lead.indexAt h _ _ _
      | with_reducible exact Lead.sliceBound h _ _ _
      | with_reducible exact Lead.sliceBounds h _ _ _ _ _ _
      | with_reducible exact Lead.slice h _ _ _ _ _
      | with_reducible exact Lead.sliceAt h _ _ _ _ _
      | with_reducible exact Lead.arrayAt h _ _
      | with_reducible exact Lead.makeInterface h _ _
      | with_reducible exact Lead.makeFunc h _ _ _
      | with_reducible exact Lead.extract h _ _
      | with_reducible exact Lead.buildSlice h _ _ _
      | with_reducible exact Lead.makeSlice h _ _ _
      | with_reducible exact Lead.intArith h _ _ _ _
      | with_reducible exact Lead.intDiv h _ _ _ _
      | with_reducible exact Lead.intBits h _ _ _ _
      | with_reducible exact Lead.shift h _ _ _ _ _
      | with_reducible exact Lead.intCmp h _ _ _
      | with_reducible exact Lead.stringOp h _ _ _
      | with_reducible exact Lead.unary h _ _
      | with_reducible exact Lead.len_ h _ _ _
      | with_reducible exact Lead.cap_ h _ _ _
      | with_reducible exact Lead.lenOf h _
      | with_reducible exact Lead.firstCells h _ _ _
      | with_reducible exact Lead.copy_ h _ _ _
      | with_reducible exact Lead.checkKey h _ _ _ _
      | with_reducible exact Lead.bytesToString h _
      | with_reducible exact Lead.behindNumber _
      | with_reducible exact Lead.sameAddr _ _
      | with_reducible exact Lead.samePointer _ _
      | with_reducible exact Lead.noView _
      | with_reducible exact Lead.viewAt _
      | with_reducible exact Lead.numberAt _
      | with_reducible exact Lead.equalIn h _ _ _ _
      | with_reducible exact Lead.eqGuardIn h _ _ _ _
      | with_reducible exact Lead.equal h _ _ _
      | with_reducible exact Lead.eqGuard h _ _ _ _ _ _
      | with_reducible exact Lead.floatArith h _ _ _ _
      | with_reducible exact Lead.floatCmp h _ _ _ _
      | with_reducible exact Lead.floatToFloat h _ _ _
      | with_reducible exact Lead.floatToInt h _ _ _
      | with_reducible exact Lead.cArith h _ _ _ _
      | with_reducible exact Lead.cCmp h _ _ _ _
      | with_reducible exact Lead.cConv h _ _ _
      | with_reducible exact Lead.cadd h _ _
      | with_reducible exact Lead.csub h _ _
      | with_reducible exact Lead.cmul h _ _
      | with_reducible exact Lead.cquo h _ _
      | with_reducible exact Lead.cProduct h _ _ _ _
      | with_reducible exact Lead.cCorrected h _ _ _ _ _
      | with_reducible exact Lead.cQuotient h _ _ _ _
      | with_reducible exact Lead.complexOp h _ _ _ _ _ _
      | with_reducible exact Lead.complexToComplex h _ _ _ _
      | with_reducible exact Lead.max2 h _ _
      | with_reducible exact Lead.min2 h _ _
      | with_reducible exact Lead.max_ h _ _ _
      | with_reducible exact Lead.min_ h _ _ _
      | with_reducible exact Lead.clear_ h _ _ _
      | with_reducible exact Lead.stringToRunes h _ _
      | with_reducible exact Lead.runesToString h _
      | with_reducible exact Lead.findAsking h _ _ _ _
      | with_reducible exact Lead.findKey h _ _ _
      | with_reducible exact Lead.lookup h _ _ _ _
      | with_reducible exact Lead.keyThatStays h _ _
      | with_reducible exact Lead.mapUpdate h _ _ _ _
      | with_reducible exact Lead.mapEntry h _ _ _
      | with_reducible exact Lead.entryStore h _ _ _ _
      | with_reducible exact Lead.makeMap h _ _
      | with_reducible exact Lead.makeChan h _ _
      | with_reducible exact Lead.range h _ _
      | with_reducible exact Lead.next h _ _
      | with_reducible exact Lead.entry h _
      | with_reducible exact Lead.delete_ h _ _ _
      | with_reducible exact Lead.typeAssert h _ _ _ _
      | with_reducible exact Lead.fieldPlace h _ _
      | with_reducible exact Lead.fieldAt h _ _ _
      | with_reducible exact Lead.placeGet h _ _
      | with_reducible exact Lead.follow h _ _ _
      | with_reducible exact Lead.binOp h _ _ _ _
      | with_reducible exact Lead.movedNumber h _ _ _
      | with_reducible exact Lead.ssaW h _ _ _ _ _
      | with_reducible refine Lead.bind ?_ (fun _ => ?_)
      | with_reducible refine Lead.map ?_
      | with_reducible refine Lead.iteH (fun _ => ?_) (fun _ => ?_)
      | split
      | dsimp only

theorem Lead.receiverVia (h : Tab V) (t : TypeId) (v : Value) (p : Array FieldStep) (b : Bool) : Lead V (Go.receiverVia t v p b) := by
    unfold Go.receiverVia
    repeat' first
      | exact Lead.setObj _ _ rfl (by simp [Env.add])
      | exact Lead.newObj _ rfl
      | (with_reducible refine Lead.newObj _ ?_; split <;> rfl)
      | (with_reducible refine Lead.program ?eq_ ?_; (case eq_ => simp only [tables_holdsPacked h.tables, tables_stoodInHeld h.tables, tables_depth h.tables, tables_globals h.tables, tables_eqGuard h.tables, tables_info h.tables]))
      | (refine Lead.byteOfG h _ ?_; simp_all; done)
      | (refine Lead.byteOfG h _ ?_; simp_all; omega)
      | (with_reducible refine Lead.getObjH h _ ?gk_ (.inr ?gd_) (fun _ _ h => ?_); (case gk_ => intros; rfl); (case gd_ => intro w_; refine ⟨_, _, rfl, ?_⟩; simp [Soft]))
      | (with_reducible refine Lead.forInArray _ ?_ _ _; intro _ _)
      | (with_reducible refine Lead.forInRange _ ?_ _ _; intro _ _)
      | (with_reducible refine Lead.forInList _ ?_ _ _; intro _ _)
      | (with_reducible refine Lead.mapArray _ ?_ _; intro _)
      | (with_reducible refine Lead.foldlM _ ?_ _ _; intro _ _)
      | with_reducible assumption
      | with_reducible exact Lead.pure _
      | with_reducible exact Lead.stuck _
      | with_reducible exact Lead.unsupported _
      | with_reducible exact Lead.goPanic _

      | with_reducible exact Lead.runtimePanic h _
      | with_reducible exact Lead.boundsPanic h _ _ _ _
      | with_reducible exact Lead.underlying h _
      | with_reducible exact Lead.typeInfo h _
      | with_reducible exact Lead.zeroValue h _
      | with_reducible exact Lead.sizeOf h _
      | with_reducible exact Lead.isAgg h _
      | with_reducible exact Lead.loadCells _ _
      | with_reducible exact Lead.storeCells _ _ _
      | with_reducible exact Lead.loadVar h _ _
      | with_reducible exact Lead.storeVar h _ _ _
      | with_reducible exact Lead.newRow _ _
      | with_reducible exact Lead.newVar _ _
      | with_reducible exact Lead.elemOf h _
      | with_reducible exact Lead.part h _ _ _
      | with_reducible exact Lead.asIntOf _
      | with_reducible exact Lead.asInt _
      | with_reducible exact Lead.asBool _
      | with_reducible exact Lead.asString _
      | with_reducible exact Lead.asAgg _
      | with_reducible exact Lead.asAddr h _
      | with_reducible exact Lead.sureAddr _
      | with_reducible exact Lead.load _ _
      | with_reducible exact Lead.store _ _ _
      | with_reducible exact Lead.choose _
      | with_reducible exact Lead.frozen _
      | with_reducible exact Lead.askRoom _
      | with_reducible exact Lead.typeStr h _
      | with_reducible exact Lead.loadAt h _ _
      | with_reducible exact Lead.storeAt h _ _ _
      | with_reducible exact Lead.alloc h _ _ _
      | with_reducible exact Lead.box h _ _
      | with_reducible exact Lead.field h _ _ _
      | with_reducible exact Lead.index h _ _ _
      | with_reducible exact Lead.indexAt h _ _ _
      | with_reducible exact Lead.sliceBound h _ _ _
      | with_reducible exact Lead.sliceBounds h _ _ _ _ _ _
      | with_reducible exact Lead.slice h _ _ _ _ _
      | with_reducible exact Lead.sliceAt h _ _ _ _ _
      | with_reducible exact Lead.arrayAt h _ _
      | with_reducible exact Lead.makeInterface h _ _
      | with_reducible exact Lead.makeFunc h _ _ _
      | with_reducible exact Lead.extract h _ _
      | with_reducible exact Lead.buildSlice h _ _ _
      | with_reducible exact Lead.makeSlice h _ _ _
      | with_reducible exact Lead.intArith h _ _ _ _
      | with_reducible exact Lead.intDiv h _ _ _ _
      | with_reducible exact Lead.intBits h _ _ _ _
      | with_reducible exact Lead.shift h _ _ _ _ _
      | with_reducible exact Lead.intCmp h _ _ _
      | with_reducible exact Lead.stringOp h _ _ _
      | with_reducible exact Lead.unary h _ _
      | with_reducible exact Lead.len_ h _ _ _
      | with_reducible exact Lead.cap_ h _ _ _
      | with_reducible exact Lead.lenOf h _
      | with_reducible exact Lead.firstCells h _ _ _
      | with_reducible exact Lead.copy_ h _ _ _
      | with_reducible exact Lead.checkKey h _ _ _ _
      | with_reducible exact Lead.bytesToString h _
      | with_reducible exact Lead.behindNumber _
      | with_reducible exact Lead.sameAddr _ _
      | with_reducible exact Lead.samePointer _ _
      | with_reducible exact Lead.noView _
      | with_reducible exact Lead.viewAt _
      | with_reducible exact Lead.numberAt _
      | with_reducible exact Lead.equalIn h _ _ _ _
      | with_reducible exact Lead.eqGuardIn h _ _ _ _
      | with_reducible exact Lead.equal h _ _ _
      | with_reducible exact Lead.eqGuard h _ _ _ _ _ _
      | with_reducible exact Lead.floatArith h _ _ _ _
      | with_reducible exact Lead.floatCmp h _ _ _ _
      | with_reducible exact Lead.floatToFloat h _ _ _
      | with_reducible exact Lead.floatToInt h _ _ _
      | with_reducible exact Lead.cArith h _ _ _ _
      | with_reducible exact Lead.cCmp h _ _ _ _
      | with_reducible exact Lead.cConv h _ _ _
      | with_reducible exact Lead.cadd h _ _
      | with_reducible exact Lead.csub h _ _
      | with_reducible exact Lead.cmul h _ _
      | with_reducible exact Lead.cquo h _ _
      | with_reducible exact Lead.cProduct h _ _ _ _
      | with_reducible exact Lead.cCorrected h _ _ _ _ _
      | with_reducible exact Lead.cQuotient h _ _ _ _
      | with_reducible exact Lead.complexOp h _ _ _ _ _ _
      | with_reducible exact Lead.complexToComplex h _ _ _ _
      | with_reducible exact Lead.max2 h _ _
      | with_reducible exact Lead.min2 h _ _
      | with_reducible exact Lead.max_ h _ _ _
      | with_reducible exact Lead.min_ h _ _ _
      | with_reducible exact Lead.clear_ h _ _ _
      | with_reducible exact Lead.stringToRunes h _ _
      | with_reducible exact Lead.runesToString h _
      | with_reducible exact Lead.findAsking h _ _ _ _
      | with_reducible exact Lead.findKey h _ _ _
      | with_reducible exact Lead.lookup h _ _ _ _
      | with_reducible exact Lead.keyThatStays h _ _
      | with_reducible exact Lead.mapUpdate h _ _ _ _
      | with_reducible exact Lead.mapEntry h _ _ _
      | with_reducible exact Lead.entryStore h _ _ _ _
      | with_reducible exact Lead.makeMap h _ _
      | with_reducible exact Lead.makeChan h _ _
      | with_reducible exact Lead.range h _ _
      | with_reducible exact Lead.next h _ _
      | with_reducible exact Lead.entry h _
      | with_reducible exact Lead.delete_ h _ _ _
      | with_reducible exact Lead.typeAssert h _ _ _ _
      | with_reducible exact Lead.fieldPlace h _ _
      | with_reducible exact Lead.fieldAt h _ _ _
      | with_reducible exact Lead.placeGet h _ _
      | with_reducible exact Lead.follow h _ _ _
      | with_reducible exact Lead.binOp h _ _ _ _
      | with_reducible exact Lead.movedNumber h _ _ _
      | with_reducible exact Lead.ssaW h _ _ _ _ _
      | with_reducible exact Lead.receiverAt h _ _ _ _
      | with_reducible refine Lead.bind ?_ (fun _ => ?_)
      | with_reducible refine Lead.map ?_
      | with_reducible refine Lead.iteH (fun _ => ?_) (fun _ => ?_)
      | split
      | dsimp only

theorem Lead.method (h : Tab V) : ∀ (n : Nat) (t : TypeId) (v : Value) (name : String), Lead V (Go.method n t v name) := by
    intro n
    induction n with
    | zero => intros; exact Lead.soft _
    | succ n ih =>
    intros
    unfold Go.method
    repeat' first
      | exact Lead.setObj _ _ rfl (by simp [Env.add])
      | exact Lead.newObj _ rfl
      | (with_reducible refine Lead.newObj _ ?_; split <;> rfl)
      | (with_reducible refine Lead.program ?eq_ ?_; (case eq_ => simp only [tables_holdsPacked h.tables, tables_stoodInHeld h.tables, tables_depth h.tables, tables_globals h.tables, tables_eqGuard h.tables, tables_info h.tables]))
      | (refine Lead.byteOfG h _ ?_; simp_all; done)
      | (refine Lead.byteOfG h _ ?_; simp_all; omega)
      | (with_reducible refine Lead.getObjH h _ ?gk_ (.inr ?gd_) (fun _ _ h => ?_); (case gk_ => intros; rfl); (case gd_ => intro w_; refine ⟨_, _, rfl, ?_⟩; simp [Soft]))
      | (with_reducible refine Lead.forInArray _ ?_ _ _; intro _ _)
      | (with_reducible refine Lead.forInRange _ ?_ _ _; intro _ _)
      | (with_reducible refine Lead.forInList _ ?_ _ _; intro _ _)
      | (with_reducible refine Lead.mapArray _ ?_ _; intro _)
      | (with_reducible refine Lead.foldlM _ ?_ _ _; intro _ _)
      | with_reducible assumption
      | with_reducible exact Lead.pure _
      | with_reducible exact Lead.stuck _
      | with_reducible exact Lead.unsupported _
      | with_reducible exact Lead.goPanic _

      | with_reducible exact Lead.runtimePanic h _
      | with_reducible exact Lead.boundsPanic h _ _ _ _
      | with_reducible exact Lead.underlying h _
      | with_reducible exact Lead.typeInfo h _
      | with_reducible exact Lead.zeroValue h _
      | with_reducible exact Lead.sizeOf h _
      | with_reducible exact Lead.isAgg h _
      | with_reducible exact Lead.loadCells _ _
      | with_reducible exact Lead.storeCells _ _ _
      | with_reducible exact Lead.loadVar h _ _
      | with_reducible exact Lead.storeVar h _ _ _
      | with_reducible exact Lead.newRow _ _
      | with_reducible exact Lead.newVar _ _
      | with_reducible exact Lead.elemOf h _
      | with_reducible exact Lead.part h _ _ _
      | with_reducible exact Lead.asIntOf _
      | with_reducible exact Lead.asInt _
      | with_reducible exact Lead.asBool _
      | with_reducible exact Lead.asString _
      | with_reducible exact Lead.asAgg _
      | with_reducible exact Lead.asAddr h _
      | with_reducible exact Lead.sureAddr _
      | with_reducible exact Lead.load _ _
      | with_reducible exact Lead.store _ _ _
      | with_reducible exact Lead.choose _
      | with_reducible exact Lead.frozen _
      | with_reducible exact Lead.askRoom _
      | with_reducible exact Lead.typeStr h _
      | with_reducible exact Lead.loadAt h _ _
      | with_reducible exact Lead.storeAt h _ _ _
      | with_reducible exact Lead.alloc h _ _ _
      | with_reducible exact Lead.box h _ _
      | with_reducible exact Lead.field h _ _ _
      | with_reducible exact Lead.index h _ _ _
      | with_reducible exact Lead.indexAt h _ _ _
      | with_reducible exact Lead.sliceBound h _ _ _
      | with_reducible exact Lead.sliceBounds h _ _ _ _ _ _
      | with_reducible exact Lead.slice h _ _ _ _ _
      | with_reducible exact Lead.sliceAt h _ _ _ _ _
      | with_reducible exact Lead.arrayAt h _ _
      | with_reducible exact Lead.makeInterface h _ _
      | with_reducible exact Lead.makeFunc h _ _ _
      | with_reducible exact Lead.extract h _ _
      | with_reducible exact Lead.buildSlice h _ _ _
      | with_reducible exact Lead.makeSlice h _ _ _
      | with_reducible exact Lead.intArith h _ _ _ _
      | with_reducible exact Lead.intDiv h _ _ _ _
      | with_reducible exact Lead.intBits h _ _ _ _
      | with_reducible exact Lead.shift h _ _ _ _ _
      | with_reducible exact Lead.intCmp h _ _ _
      | with_reducible exact Lead.stringOp h _ _ _
      | with_reducible exact Lead.unary h _ _
      | with_reducible exact Lead.len_ h _ _ _
      | with_reducible exact Lead.cap_ h _ _ _
      | with_reducible exact Lead.lenOf h _
      | with_reducible exact Lead.firstCells h _ _ _
      | with_reducible exact Lead.copy_ h _ _ _
      | with_reducible exact Lead.checkKey h _ _ _ _
      | with_reducible exact Lead.bytesToString h _
      | with_reducible exact Lead.behindNumber _
      | with_reducible exact Lead.sameAddr _ _
      | with_reducible exact Lead.samePointer _ _
      | with_reducible exact Lead.noView _
      | with_reducible exact Lead.viewAt _
      | with_reducible exact Lead.numberAt _
      | with_reducible exact Lead.equalIn h _ _ _ _
      | with_reducible exact Lead.eqGuardIn h _ _ _ _
      | with_reducible exact Lead.equal h _ _ _
      | with_reducible exact Lead.eqGuard h _ _ _ _ _ _
      | with_reducible exact Lead.floatArith h _ _ _ _
      | with_reducible exact Lead.floatCmp h _ _ _ _
      | with_reducible exact Lead.floatToFloat h _ _ _
      | with_reducible exact Lead.floatToInt h _ _ _
      | with_reducible exact Lead.cArith h _ _ _ _
      | with_reducible exact Lead.cCmp h _ _ _ _
      | with_reducible exact Lead.cConv h _ _ _
      | with_reducible exact Lead.cadd h _ _
      | with_reducible exact Lead.csub h _ _
      | with_reducible exact Lead.cmul h _ _
      | with_reducible exact Lead.cquo h _ _
      | with_reducible exact Lead.cProduct h _ _ _ _
      | with_reducible exact Lead.cCorrected h _ _ _ _ _
      | with_reducible exact Lead.cQuotient h _ _ _ _
      | with_reducible exact Lead.complexOp h _ _ _ _ _ _
      | with_reducible exact Lead.complexToComplex h _ _ _ _
      | with_reducible exact Lead.max2 h _ _
      | with_reducible exact Lead.min2 h _ _
      | with_reducible exact Lead.max_ h _ _ _
      | with_reducible exact Lead.min_ h _ _ _
      | with_reducible exact Lead.clear_ h _ _ _
      | with_reducible exact Lead.stringToRunes h _ _
      | with_reducible exact Lead.runesToString h _
      | with_reducible exact Lead.findAsking h _ _ _ _
      | with_reducible exact Lead.findKey h _ _ _
      | with_reducible exact Lead.lookup h _ _ _ _
      | with_reducible exact Lead.keyThatStays h _ _
      | with_reducible exact Lead.mapUpdate h _ _ _ _
      | with_reducible exact Lead.mapEntry h _ _ _
      | with_reducible exact Lead.entryStore h _ _ _ _
      | with_reducible exact Lead.makeMap h _ _
      | with_reducible exact Lead.makeChan h _ _
      | with_reducible exact Lead.range h _ _
      | with_reducible exact Lead.next h _ _
      | with_reducible exact Lead.entry h _
      | with_reducible exact Lead.delete_ h _ _ _
      | with_reducible exact Lead.typeAssert h _ _ _ _
      | with_reducible exact Lead.fieldPlace h _ _
      | with_reducible exact Lead.fieldAt h _ _ _
      | with_reducible exact Lead.placeGet h _ _
      | with_reducible exact Lead.follow h _ _ _
      | with_reducible exact Lead.binOp h _ _ _ _
      | with_reducible exact Lead.movedNumber h _ _ _
      | with_reducible exact Lead.ssaW h _ _ _ _ _
      | with_reducible exact Lead.receiverAt h _ _ _ _
      | with_reducible exact Lead.receiverVia h _ _ _ _
      | with_reducible apply ih
      | with_reducible refine Lead.bind ?_ (fun _ => ?_)
      | with_reducible refine Lead.map ?_
      | with_reducible refine Lead.iteH (fun _ => ?_) (fun _ => ?_)
      | split
      | dsimp only

theorem Lead.build (h : Tab V) (t : TypeId) (ps : Array (Nat × Value)) : Lead V (Instr.build t ps) := by
    unfold Instr.build
    repeat' first
      | exact Lead.setObj _ _ rfl (by simp [Env.add])
      | exact Lead.newObj _ rfl
      | (with_reducible refine Lead.newObj _ ?_; split <;> rfl)
      | (with_reducible refine Lead.program ?eq_ ?_; (case eq_ => simp only [tables_holdsPacked h.tables, tables_stoodInHeld h.tables, tables_depth h.tables, tables_globals h.tables, tables_eqGuard h.tables, tables_info h.tables]))
      | (refine Lead.byteOfG h _ ?_; simp_all; done)
      | (refine Lead.byteOfG h _ ?_; simp_all; omega)
      | (with_reducible refine Lead.getObjH h _ ?gk_ (.inr ?gd_) (fun _ _ h => ?_); (case gk_ => intros; rfl); (case gd_ => intro w_; refine ⟨_, _, rfl, ?_⟩; simp [Soft]))
      | (with_reducible refine Lead.forInArray _ ?_ _ _; intro _ _)
      | (with_reducible refine Lead.forInRange _ ?_ _ _; intro _ _)
      | (with_reducible refine Lead.forInList _ ?_ _ _; intro _ _)
      | (with_reducible refine Lead.mapArray _ ?_ _; intro _)
      | (with_reducible refine Lead.foldlM _ ?_ _ _; intro _ _)
      | with_reducible assumption
      | with_reducible exact Lead.pure _
      | with_reducible exact Lead.stuck _
      | with_reducible exact Lead.unsupported _
      | with_reducible exact Lead.goPanic _

      | with_reducible exact Lead.runtimePanic h _
      | with_reducible exact Lead.boundsPanic h _ _ _ _
      | with_reducible exact Lead.underlying h _
      | with_reducible exact Lead.typeInfo h _
      | with_reducible exact Lead.zeroValue h _
      | with_reducible exact Lead.sizeOf h _
      | with_reducible exact Lead.isAgg h _
      | with_reducible exact Lead.loadCells _ _
      | with_reducible exact Lead.storeCells _ _ _
      | with_reducible exact Lead.loadVar h _ _
      | with_reducible exact Lead.storeVar h _ _ _
      | with_reducible exact Lead.newRow _ _
      | with_reducible exact Lead.newVar _ _
      | with_reducible exact Lead.elemOf h _
      | with_reducible exact Lead.part h _ _ _
      | with_reducible exact Lead.asIntOf _
      | with_reducible exact Lead.asInt _
      | with_reducible exact Lead.asBool _
      | with_reducible exact Lead.asString _
      | with_reducible exact Lead.asAgg _
      | with_reducible exact Lead.asAddr h _
      | with_reducible exact Lead.sureAddr _
      | with_reducible exact Lead.load _ _
      | with_reducible exact Lead.store _ _ _
      | with_reducible exact Lead.choose _
      | with_reducible exact Lead.frozen _
      | with_reducible exact Lead.askRoom _
      | with_reducible exact Lead.typeStr h _
      | with_reducible exact Lead.loadAt h _ _
      | with_reducible exact Lead.storeAt h _ _ _
      | with_reducible exact Lead.alloc h _ _ _
      | with_reducible exact Lead.box h _ _
      | with_reducible exact Lead.field h _ _ _
      | with_reducible exact Lead.index h _ _ _
      | with_reducible exact Lead.indexAt h _ _ _
      | with_reducible exact Lead.sliceBound h _ _ _
      | with_reducible exact Lead.sliceBounds h _ _ _ _ _ _
      | with_reducible exact Lead.slice h _ _ _ _ _
      | with_reducible exact Lead.sliceAt h _ _ _ _ _
      | with_reducible exact Lead.arrayAt h _ _
      | with_reducible exact Lead.makeInterface h _ _
      | with_reducible exact Lead.makeFunc h _ _ _
      | with_reducible exact Lead.extract h _ _
      | with_reducible exact Lead.buildSlice h _ _ _
      | with_reducible exact Lead.makeSlice h _ _ _
      | with_reducible exact Lead.intArith h _ _ _ _
      | with_reducible exact Lead.intDiv h _ _ _ _
      | with_reducible exact Lead.intBits h _ _ _ _
      | with_reducible exact Lead.shift h _ _ _ _ _
      | with_reducible exact Lead.intCmp h _ _ _
      | with_reducible exact Lead.stringOp h _ _ _
      | with_reducible exact Lead.unary h _ _
      | with_reducible exact Lead.len_ h _ _ _
      | with_reducible exact Lead.cap_ h _ _ _
      | with_reducible exact Lead.lenOf h _
      | with_reducible exact Lead.firstCells h _ _ _
      | with_reducible exact Lead.copy_ h _ _ _
      | with_reducible exact Lead.checkKey h _ _ _ _
      | with_reducible exact Lead.bytesToString h _
      | with_reducible exact Lead.behindNumber _
      | with_reducible exact Lead.sameAddr _ _
      | with_reducible exact Lead.samePointer _ _
      | with_reducible exact Lead.noView _
      | with_reducible exact Lead.viewAt _
      | with_reducible exact Lead.numberAt _
      | with_reducible exact Lead.equalIn h _ _ _ _
      | with_reducible exact Lead.eqGuardIn h _ _ _ _
      | with_reducible exact Lead.equal h _ _ _
      | with_reducible exact Lead.eqGuard h _ _ _ _ _ _
      | with_reducible exact Lead.floatArith h _ _ _ _
      | with_reducible exact Lead.floatCmp h _ _ _ _
      | with_reducible exact Lead.floatToFloat h _ _ _
      | with_reducible exact Lead.floatToInt h _ _ _
      | with_reducible exact Lead.cArith h _ _ _ _
      | with_reducible exact Lead.cCmp h _ _ _ _
      | with_reducible exact Lead.cConv h _ _ _
      | with_reducible exact Lead.cadd h _ _
      | with_reducible exact Lead.csub h _ _
      | with_reducible exact Lead.cmul h _ _
      | with_reducible exact Lead.cquo h _ _
      | with_reducible exact Lead.cProduct h _ _ _ _
      | with_reducible exact Lead.cCorrected h _ _ _ _ _
      | with_reducible exact Lead.cQuotient h _ _ _ _
      | with_reducible exact Lead.complexOp h _ _ _ _ _ _
      | with_reducible exact Lead.complexToComplex h _ _ _ _
      | with_reducible exact Lead.max2 h _ _
      | with_reducible exact Lead.min2 h _ _
      | with_reducible exact Lead.max_ h _ _ _
      | with_reducible exact Lead.min_ h _ _ _
      | with_reducible exact Lead.clear_ h _ _ _
      | with_reducible exact Lead.stringToRunes h _ _
      | with_reducible exact Lead.runesToString h _
      | with_reducible exact Lead.findAsking h _ _ _ _
      | with_reducible exact Lead.findKey h _ _ _
      | with_reducible exact Lead.lookup h _ _ _ _
      | with_reducible exact Lead.keyThatStays h _ _
      | with_reducible exact Lead.mapUpdate h _ _ _ _
      | with_reducible exact Lead.mapEntry h _ _ _
      | with_reducible exact Lead.entryStore h _ _ _ _
      | with_reducible exact Lead.makeMap h _ _
      | with_reducible exact Lead.makeChan h _ _
      | with_reducible exact Lead.range h _ _
      | with_reducible exact Lead.next h _ _
      | with_reducible exact Lead.entry h _
      | with_reducible exact Lead.delete_ h _ _ _
      | with_reducible exact Lead.typeAssert h _ _ _ _
      | with_reducible exact Lead.fieldPlace h _ _
      | with_reducible exact Lead.fieldAt h _ _ _
      | with_reducible exact Lead.placeGet h _ _
      | with_reducible exact Lead.follow h _ _ _
      | with_reducible exact Lead.binOp h _ _ _ _
      | with_reducible exact Lead.movedNumber h _ _ _
      | with_reducible exact Lead.ssaW h _ _ _ _ _
      | with_reducible exact Lead.receiverAt h _ _ _ _
      | with_reducible exact Lead.receiverVia h _ _ _ _
      | with_reducible exact Lead.method h _ _ _ _
      | with_reducible refine Lead.bind ?_ (fun _ => ?_)
      | with_reducible refine Lead.map ?_
      | with_reducible refine Lead.iteH (fun _ => ?_) (fun _ => ?_)
      | split
      | dsimp only

end
end Go.Proofs.YtnikgcedifdaeaaGreatDoor.Lift
end

section
/- A whole operation, walked alike: conversions, 'append', calls. -/
namespace Go.Proofs.YtnikgcedifdaeaaGreatDoor.Lift
open Go Go.Conc
set_option linter.unusedSimpArgs false
set_option linter.unusedVariables false
section
variable {V : Env}
theorem Lead.underlyingK {β : Type} {k : TypeDesc → Sem β} (h : Tab V) (t : TypeId) (hk : ∀ d, V.re.underlying t = some d → Lead V (k d)) : Lead V (Go.underlying t >>= k) := by
  unfold Go.underlying
  show Lead V (Sem.bind (Sem.bind Go.program _) k)
  rw [Sem.bind_assoc']
  refine Lead.program (f := fun p => Sem.bind (match p.underlying t with | some d => Pure.pure d | none => Go.stuck "no such type") k) (by simp only [tables_under h.tables]) ?_
  cases hu : V.re.underlying t with
  | none => exact Lead.soft _
  | some d => exact hk d hu
theorem modify_push {α : Type} (xs : Array α) (x : α) (f : α → α) : (xs.push x).modify xs.size f = xs.push (f x) := by
  apply Array.ext
  · simp
  · intro i h1 h2
    simp only [Array.getElem_modify, Array.getElem_push]
    simp only [Array.size_modify, Array.size_push] at h1
    by_cases hi : i < xs.size
    · simp [hi, Nat.ne_of_gt hi]
    · have : i = xs.size := by omega
      subst this
      simp
theorem Lead.newMarked (e : TypeId) (cs : Array Value) : Lead V (Go.newRow e cs >>= fun a => Go.markStringish a >>= fun _ => (Pure.pure a : Sem Addr)) := by
  intro Bad w1 w2 m es2 hB hS hT
  have run : ∀ (Q : Program) (w : World) (es : Array Event), (Go.newRow e cs >>= fun a => Go.markStringish a >>= fun _ => (Pure.pure a : Sem Addr)).runT Q w es = (.ok ⟨w.heap.size, 0, none⟩ { w with heap := w.heap.push (.cells cs e (cs.size, cs.size + 1)) }, es) := by
    intro Q w es
    show (Sem.bind (Go.newRow e cs) _).runT Q w es = _
    have h1 : (Go.newRow e cs).runT Q w es = (.ok ⟨w.heap.size, 0, none⟩ { w with heap := w.heap.push (.cells cs e (0, 0)) }, es) := by
      unfold Go.newRow
      show (Sem.bind (Go.newObj _) _).runT Q w es = _
      rw [Sem.runT_bind' Q (Go.newObj _) _ w es]
      simp [Go.newObj, Sem.runT, Pure.pure, -Sem.runT_eq]
    rw [Sem.runT_bind' Q (Go.newRow e cs) _ w es, h1]
    dsimp only
    show (Sem.bind (Go.markStringish _) _).runT Q _ es = _
    have h2 : (Go.markStringish ⟨w.heap.size, 0, none⟩).runT Q { w with heap := w.heap.push (.cells cs e (0, 0)) } es = (.ok () { w with heap := w.heap.push (.cells cs e (cs.size, cs.size + 1)) }, es) := by
      unfold Go.markStringish
      show (Sem.bind (Go.shape w.heap.size) _).runT Q _ es = _
      rw [Sem.runT_bind' Q (Go.shape w.heap.size) _ _ es]
      have hsh : ({ w with heap := w.heap.push (.cells cs e (0, 0)) } : World).shape? w.heap.size = some (e, cs.size) := by
        unfold World.shape?
        simp
      simp only [Go.shape, Sem.runT, hsh]
      show (Go.freeze _ 1).runT Q _ es = _
      simp only [Go.freeze, Sem.runT, World.freeze]
      simp [modify_push, -Sem.runT_eq]
    rw [Sem.runT_bind' Q (Go.markStringish _) _ _ es, h2]
    rfl
  rw [← Sem.runT_fst V.sh _ w1 #[], run, run]
  intro _
  exact ⟨_, #[], by simp [hS.size], hS.push _ rfl, by show w2.drawn + w1.drawn = w2.drawn + w1.drawn; rfl, rfl, by simp⟩
theorem Lead.stringToBytes (e : TypeId) (s : ByteArray) : Lead V (Conv.stringToBytes e s) := by
  unfold Conv.stringToBytes
  refine Lead.bind (Lead.choose _) fun cap => ?_
  dsimp only
  have h := Lead.bind (Lead.newMarked (V := V) e ((s.data.map fun b => Value.int .u8 b.toNat) ++ Array.replicate (cap - s.size) (.int .u8 0))) (fun a => Lead.pure (V := V) (Value.slice (some a) s.size cap))
  have e0 : ∀ (x : Sem Addr) (y : Addr → Sem Unit) (f : Addr → Sem Value), ((x >>= fun a => y a >>= fun _ => (Pure.pure a : Sem Addr)) >>= f) = (x >>= fun a => y a >>= fun _ => f a) := by
    intro x y f
    show Sem.bind (Sem.bind x _) f = Sem.bind x _
    rw [Sem.bind_assoc']
    congr 1
    funext a
    show Sem.bind (Sem.bind (y a) _) f = Sem.bind (y a) _
    rw [Sem.bind_assoc']
    rfl
  rw [e0] at h
  exact h
/-- What a conversion must not be: of one slice type to itself; through unsafe.Pointer. -/
def convOk (P : Program) (src dst : TypeId) : Bool :=
  match P.underlying src, P.underlying dst with
  | some .unsafePointer, _ | _, some .unsafePointer => false
  | some (.slice _), some (.slice _) => false
  | _, _ => true
theorem Lead.intToInt (k : IntKind) (n : Int) : Lead V (Conv.intToInt k n) := by unfold Conv.intToInt; exact Lead.pure _
theorem Lead.intToFloat (k : FloatKind) (n : Int) : Lead V (Conv.intToFloat k n) := by unfold Conv.intToFloat; exact Lead.pure _
theorem Lead.intToString (n : Int) : Lead V (Conv.intToString n) := by unfold Conv.intToString; exact Lead.pure _
theorem Lead.convert (h : Tab V) (src dst : TypeId) (x : Value) (hc : convOk V.re src dst = true) : Lead V (Go.convert src dst x) := by
  unfold Go.convert
  refine Lead.underlyingK h _ fun d hd => Lead.underlyingK h _ fun d' hd' => ?_
  unfold convOk at hc
  rw [hd, hd'] at hc
  clear hd hd'
  split
  all_goals first
    | with_reducible exact Lead.intToInt _ _
    | with_reducible exact Lead.intToFloat _ _
    | with_reducible exact Lead.floatToInt h _ _ _
    | with_reducible exact Lead.floatToFloat h _ _ _
    | with_reducible exact Lead.complexToComplex h _ _ _ _
    | with_reducible exact Lead.intToString _
    | with_reducible exact Lead.pure _
    | with_reducible exact Lead.unsupported _
    | with_reducible exact Lead.stuck _
    | (simp at hc; done)
    | (exfalso; cases d <;> simp_all; done)
    | (refine Lead.bind (Lead.underlying h _) fun e => ?_; split <;> first | with_reducible exact Lead.stringToBytes _ _ | with_reducible exact Lead.stringToRunes h _ _ | with_reducible exact Lead.bytesToString h _ | with_reducible exact Lead.runesToString h _ | with_reducible exact Lead.stuck _)
theorem mayShare_run (Q : Program) (w : World) (es : Array Event) (a b n : Nat) (base : Option Addr) (x : Value) : ∃ r, (Builtin.mayShare a b n base x).runT Q w es = (.ok r w, es) := by
  have hc : ∀ (a : Addr) (c : Nat) (es : Array Event), ∃ r, (Builtin.holdsCells a c).runT Q w es = (.ok r w, es) := by
    intro a c es
    unfold Builtin.holdsCells
    show ∃ r, (Sem.bind (Go.shape a.block) _).runT Q w es = _
    rw [Sem.runT_bind' Q (Go.shape a.block) _ w es]
    simp only [Go.shape, Sem.runT]
    cases w.shape? a.block <;> exact ⟨_, rfl⟩
  have tail : ∀ es : Array Event, ∃ r, ((match x with
      | .slice (some b) _ _ => do Pure.pure (!(← Builtin.holdsCells b (n * a)) || base.any (·.block == b.block))
      | _ => Pure.pure false : Sem Bool)).runT Q w es = (.ok r w, es) := by
    intro es
    split
    · rename_i b _ _
      obtain ⟨r, hr⟩ := hc b (n * a) es
      show ∃ r, (Sem.bind (Builtin.holdsCells b (n * a)) _).runT Q w es = _
      rw [Sem.runT_bind' Q (Builtin.holdsCells b (n * a)) _ w es, hr]
      exact ⟨_, rfl⟩
    · exact ⟨_, rfl⟩
  unfold Builtin.mayShare
  cases base with
  | none =>
    obtain ⟨r, hr⟩ := tail es
    exact ⟨r, hr⟩
  | some p =>
    obtain ⟨r, hr⟩ := hc p (b * a) es
    show ∃ r, (Sem.bind (Builtin.holdsCells p (b * a)) fun h => Sem.bind (Go.frozen (p.add (b / 2 * a))) fun z => (if (!(h && !z)) = true then Pure.pure true else (match x with
      | .slice (some b) _ _ => do Pure.pure (!(← Builtin.holdsCells b (n * a)) || (some p).any (·.block == b.block))
      | _ => Pure.pure false) : Sem Bool)).runT Q w es = _
    rw [Sem.runT_bind' Q (Builtin.holdsCells p (b * a)) _ w es, hr]
    dsimp only
    rw [Sem.runT_bind' Q (Go.frozen _) _ w es]
    simp only [Go.frozen, Sem.runT]
    obtain ⟨r2, hr2⟩ := tail es
    cases hz : (!(r && !w.frozen? (p.add (b / 2 * a))))
    · exact ⟨r2, hr2⟩
    · exact ⟨true, rfl⟩
theorem Lead.noRoom {α : Type} (a b n : Nat) (base : Option Addr) (x : Value) (u : Unsupported) (hu : isInit u = false := by with_unfolding_all rfl) : Lead V ((Builtin.mayShare a b n base x >>= fun s => if (!s) = true then (Go.mark .noRoom >>= fun _ => Go.unsupported u) else Go.unsupported u) : Sem α) := by
  refine Lead.dead fun w => ?_
  obtain ⟨r, hr⟩ := mayShare_run V.sh w #[] a b n base x
  refine ⟨.unsupported u, w, ?_, by intro hs; cases u <;> first | exact hs | cases hu⟩
  show (Sem.bind (Builtin.mayShare a b n base x) _).run V.sh w = _
  have hr' : (Builtin.mayShare a b n base x).run V.sh w = .ok r w := by rw [← Sem.runT_fst V.sh _ w #[], hr]
  rw [Sem.run_bind' V.sh (Builtin.mayShare a b n base x) _ w, hr']
  cases r <;> rfl
theorem Lead.sysEnv : Lead V (Go.sys .env) := by
  intro Bad w1 w2 m es2 hB hS hT
  have h0 : ∀ w : World, w.sys .env = (.strings w.os.env, w) := fun w => rfl
  unfold Go.sys
  simp only [Sem.run, h0]
  intro _
  refine ⟨w2, #[⟨.output, true, false⟩], by simp [Sem.runT, h0, hS.os, -Sem.runT_eq], hS, by omega, rfl, ?_⟩
  intro e he
  obtain rfl : e = ⟨.output, true, false⟩ := by simpa using he
  refine ⟨fun x hx hs => ?_, by simp, by simp, trivial⟩
  simp [MemAct.ofEvent, MemAct.touch?] at hx
  rw [← hx] at hs
  exact hs.elim
theorem Lead.panic (h : Tab V) (x : Value) : Lead V (Instr.panic x) := by
  unfold Instr.panic
  split
  · exact Lead.goPanic _
  · refine Lead.bind ?_ fun n => Lead.ite (Lead.goPanic _) (Lead.runtimePanic h _)
    unfold Instr.panicnil
    refine Lead.bind Lead.sysEnv fun s => ?_
    split
    · dsimp only
      exact Lead.program (by rw [h.tables]) (Lead.pure _)
    · exact Lead.stuck _
  · exact Lead.stuck _
end
end Go.Proofs.YtnikgcedifdaeaaGreatDoor.Lift
end

section
/- 'append', calls, and the step of one operation, walked alike. -/
namespace Go.Proofs.YtnikgcedifdaeaaGreatDoor.Lift
open Go Go.Conc
set_option linter.unusedSimpArgs false
set_option linter.unusedVariables false
section
variable {V : Env}
theorem Lead.noRoom' {α : Type} {q : Sem α} (a b n : Nat) (base : Option Addr) (x : Value) (u : Unsupported) (hu : isInit u = false := by with_unfolding_all rfl) : Lead V (do
      if !(← Builtin.mayShare a b n base x) then Go.mark .noRoom
      Go.unsupported u : Sem α) := by
  refine Lead.dead fun w => ?_
  obtain ⟨r, hr⟩ := mayShare_run V.sh w #[] a b n base x
  refine ⟨.unsupported u, w, ?_, by intro hs; cases u <;> first | exact hs | cases hu⟩
  show (Sem.bind (Builtin.mayShare a b n base x) _).run V.sh w = _
  have hr' : (Builtin.mayShare a b n base x).run V.sh w = .ok r w := by rw [← Sem.runT_fst V.sh _ w #[], hr]
  rw [Sem.run_bind' V.sh (Builtin.mayShare a b n base x) _ w, hr']
  cases r <;> rfl
theorem Lead.append_ (h : Tab V) (a : Array TypeId) (t : TypeId) (x : Array Value) : Lead V (Builtin.append_ a t x) := by
  unfold Builtin.append_
  repeat' first
      | with_reducible exact Lead.pure _
      | with_reducible exact Lead.stuck _
      | with_reducible exact Lead.unsupported _
      | with_reducible exact Lead.runtimePanic h _
      | with_reducible exact Lead.underlying h _
      | with_reducible exact Lead.typeInfo h _
      | with_reducible exact Lead.zeroValue h _
      | with_reducible exact Lead.sizeOf h _
      | with_reducible exact Lead.asInt _
      | with_reducible exact Lead.choose _
      | with_reducible exact Lead.askRoom _
      | with_reducible exact Lead.storeCells _ _ _
      | with_reducible exact Lead.newRow _ _
      | with_reducible exact Lead.lenOf h _
      | with_reducible exact Lead.firstCells h _ _ _
      | with_reducible exact Lead.noRoom' _ _ _ _ _ _
      | with_reducible exact Lead.noRoom _ _ _ _ _ _
      | with_reducible refine Lead.bind ?_ (fun _ => ?_)
      | with_reducible refine Lead.map ?_
      | with_reducible refine Lead.iteH (fun _ => ?_) (fun _ => ?_)
      | split
      | dsimp only
end
end Go.Proofs.YtnikgcedifdaeaaGreatDoor.Lift
end

section
/- FuncsOk, and the step of one operation, walked alike. -/
namespace Go.Proofs.YtnikgcedifdaeaaGreatDoor.Lift
open Go Go.Conc
set_option linter.unusedSimpArgs false
set_option linter.unusedVariables false
section
variable {V : Env}
theorem Lead.add {α : Type} {s : Sem α} (r : Nat) (h : Lead V s) : Lead (V.add r) s := by
  intro Bad w1 w2 m es2 hB hS hT
  have h1 := h Bad w1 w2 m es2 (fun i hi => hB i (.inl hi)) hS.strip hT
  show Leads (V.add r) Bad m w1 w2 es2 (s.run V.sh w1) (s.runT V.re w2 es2)
  cases hr : s.run V.sh w1 with
  | ok a v1 =>
    rw [hr] at h1
    intro hm
    obtain ⟨v2, n, e1, o1⟩ := h1 hm
    exact ⟨v2, n, e1, o1.sh.add, o1.dr, o1.t2, o1.evs⟩
  | halt a v1 =>
    rw [hr] at h1
    intro hh hm
    obtain ⟨rd, v2, n, e1, o1⟩ := h1 hh hm
    exact ⟨rd, v2, n, e1, o1.sh.add, o1.dr, o1.t2, o1.evs⟩
/-- A built-in function that is walked alike. -/
def builtinOk : Builtin → Bool
  | .close | .complex | .real | .imag | .print | .println | .unsafeSlice | .unsafeStringData => false
  | _ => true
/-- What is called at last: no built-in function that is barred. -/
def targetOk : Target → Bool
  | .builtin b _ _ _ => builtinOk b
  | .coroexit _ | .collected _ => false
  | _ => true
/-- What an operation of ours may answer. -/
def NextOk (V : Env) : Next → Prop
  | .value _ | .skip | .recover => True
  | .enter f _ => (V.sh.funcs[f]?).isSome = true
  | .defer d => targetOk d.target = true
  | _ => False
def Calm (w : World) : Prop := ∀ (i : Nat) (o : Obj), w.heap[i]? = some o → Obj.calm o = true
/-- Walked alike, and answers only what an operation of ours may. -/
structure Plays (V : Env) (s : Sem Next) : Prop where
  lead : Lead V s
  only : V.sh.toTables = V.re.toTables → ∀ w n w', Calm w → s.run V.sh w = .ok n w' → NextOk V n
theorem Lead.calm {α : Type} {s : Sem α} (h : Lead V s) (ht : V.sh.toTables = V.re.toTables) {w v : World} {a : α} (hc : Calm w) (hr : s.run V.sh w = .ok a v) : Calm v := by
  have h1 := h (fun _ => False) w w v.drawn #[] (fun _ _ => id) ⟨ht, rfl, fun _ _ => .inl rfl, fun _ hi => hi.elim, fun _ hi => hi.elim, rfl, rfl, hc, fun _ => rfl, fun _ _ _ => rfl, fun _ _ hi => hi.elim⟩ (fun _ _ => rfl)
  rw [hr] at h1
  obtain ⟨v2, n, _, o⟩ := h1 (by omega)
  exact o.sh.calm
theorem Plays.pure {n : Next} (h : NextOk V n) : Plays V (Pure.pure n) := ⟨Lead.pure _, fun _ w n' w' _ e => by
  simp only [Pure.pure, Sem.run] at e
  cases e
  exact h⟩
theorem Plays.soft (h : Halt) (hr : Ready h := by trivial) : Plays V (.halt h) := ⟨Lead.soft _ hr, fun _ w n' w' _ e => by simp only [Sem.run] at e; cases e⟩
theorem Plays.bind {α : Type} {x : Sem α} {f : α → Sem Next} (hx : Lead V x) (hf : ∀ a, Plays V (f a)) : Plays V (x >>= f) :=
  ⟨Lead.bind hx fun a => (hf a).lead, fun ht w n w' hc e => by
    have e' : (Sem.bind x f).run V.sh w = .ok n w' := e
    rw [Sem.run_bind' V.sh x f w] at e'
    cases hr : x.run V.sh w with
    | ok a v =>
      rw [hr] at e'
      exact (hf a).only ht v n w' (hx.calm ht hc hr) e'
    | halt a v =>
      rw [hr] at e'
      cases e'⟩
theorem Plays.program {f : Program → Sem Next} (h : f V.sh = f V.re) (hf : Plays V (f V.re)) : Plays V (Go.program >>= f) :=
  ⟨Lead.program h hf.lead, fun ht w n w' hc e => by
    have e' : (Sem.bind Go.program f).run V.sh w = .ok n w' := e
    rw [Sem.run_bind' V.sh Go.program f w] at e'
    simp only [Go.program, Sem.run, Result.andThen] at e'
    rw [h] at e'
    exact hf.only ht w n w' hc e'⟩
theorem Plays.ite {c : Prop} [Decidable c] {x y : Sem Next} (hx : Plays V x) (hy : Plays V y) : Plays V (if c then x else y) := by split <;> assumption
theorem Plays.value {s : Sem Value} (h : Lead V s) : Plays V (do Pure.pure (Next.value (← s)) : Sem Next) := Plays.bind h fun _ => Plays.pure (n := _) (by exact trivial)
theorem Plays.unit {s : Sem Unit} (h : Lead V s) : Plays V (do s; Pure.pure Next.skip : Sem Next) := Plays.bind h fun _ => Plays.pure (n := _) (by exact trivial)
theorem Plays.panic (h : Tab V) (e : RuntimeError) : Plays V (Go.runtimePanic e) := ⟨Lead.runtimePanic h e, by
  have only : ∀ {α : Type} (x : Sem α) (f : α → Sem Next), (∀ a w n w', (f a).run V.sh w ≠ .ok n w') → ∀ w n w', (x >>= f).run V.sh w ≠ .ok n w' := by
    intro α x f hf w n w' e
    have e' : (Sem.bind x f).run V.sh w = .ok n w' := e
    rw [Sem.run_bind' V.sh x f w] at e'
    cases hr : x.run V.sh w with
    | ok a v =>
      rw [hr] at e'
      exact hf a v n w' e'
    | halt a v =>
      rw [hr] at e'
      cases e'
  have g0 : ∀ v w n w', (Go.goPanic v : Sem Next).run V.sh w ≠ .ok n w' := by
    intro v w n w' e
    cases e
  have : ∀ w n w', (Go.runtimePanic e : Sem Next).run V.sh w ≠ .ok n w' := by
    unfold Go.runtimePanic
    refine only _ _ fun p => ?_
    cases e <;> first
      | exact g0 _
      | exact only _ _ fun _ => only _ _ fun _ => g0 _
  exact fun _ w n w' _ e => absurd e (this w n w')⟩
/-- The functions of the two programs: what is called is the same. -/
structure FuncsOk (V : Env) : Prop where
  tab : Tab V
  some : ∀ f : Nat, (V.sh.funcs[f]?).isSome = (V.re.funcs[f]?).isSome
  name : ∀ (f : Nat) a b, V.sh.funcs[f]? = Option.some a → V.re.funcs[f]? = Option.some b → a.body.isSome = true → a.name = b.name ∧ b.body.isSome = true ∧ b.name ≠ "runtime.NumGoroutine"
  num : ∀ (f : Nat) a, V.sh.funcs[f]? = Option.some a → a.body.isSome = false → a.name ≠ "runtime.NumGoroutine" ∧ Extern.findNext a = none
  ext : ∀ (f : Nat) a, V.sh.funcs[f]? = Option.some a → a.body.isSome = false → (V.re.funcs[f]? = Option.some a ∧ ∀ e, Extern.find a = Option.some e → ∀ args, Lead V (e args)) ∨
    (Extern.find a = none ∧ ¬ (a.name.endsWith ".init" && !a.name.startsWith "(" && !a.name.startsWith "gosem.") = true)
theorem FuncsOk.add (h : FuncsOk V) (r : Nat) : FuncsOk (V.add r) := ⟨h.tab.add r, h.some, h.name, h.num, fun f a ha hb => (h.ext f a ha hb).imp (fun x => ⟨x.1, fun e he args => (x.2 e he args).add r⟩) id⟩
theorem Plays.callFunc (h : FuncsOk V) (f : FuncId) (args : Array Value) : Plays V (Go.callFunc f args) := by
  have dead : ∀ {s1 : Sem Next} , (∀ w, ∃ e w', s1.run V.sh w = .halt e w' ∧ ¬ Soft e) → Plays V s1 := fun hs => ⟨Lead.dead hs, fun _ w n w' _ e => by
    obtain ⟨x, y, e1, _⟩ := hs w
    rw [e1] at e
    cases e⟩
  have hsome := h.some f
  cases hs : V.sh.funcs[f]? with
  | none =>
    refine dead fun w => ⟨.stuck "call: no such function", w, ?_, by simp [Soft]⟩
    unfold Go.callFunc
    show (Sem.bind Go.program _).run V.sh w = _
    rw [Sem.run_bind' V.sh Go.program _ w]
    simp only [Go.program, Sem.run, Result.andThen, hs]
    rfl
  | some a =>
    rw [hs] at hsome
    obtain ⟨b, hb⟩ := Option.isSome_iff_exists.1 hsome.symm
    cases hbody : a.body.isSome with
    | true =>
      obtain ⟨n1, n2, n3⟩ := h.name f a b hs hb hbody
      have hbody2 : b.body.isNone = false := by
        cases hx : b.body <;> rw [hx] at n2 <;> first | rfl | cases n2
      have hbody1 : a.body.isNone = false := by
        cases hx : a.body <;> rw [hx] at hbody <;> first | rfl | cases hbody
      unfold Go.callFunc
      refine Plays.program ?_ ?_
      · rw [hs, hb]
        simp only [n1, hbody1, hbody2, Bool.false_eq_true, ↓reduceIte]
      · rw [hb]
        dsimp only
        by_cases hn : (b.name == "runtime.NumGoroutine") = true
        · rw [if_pos hn]
          simp at hn; exact absurd hn n3
        · rw [if_neg hn]
          simp only [hbody2, Bool.false_eq_true, ↓reduceIte]
          exact Plays.pure (show (V.sh.funcs[f]?).isSome = true by rw [hs]; rfl)
    | false =>
      obtain ⟨n1, n2⟩ := h.num f a hs hbody
      have hbody1 : a.body.isNone = true := by
        cases hx : a.body <;> rw [hx] at hbody <;> first | rfl | cases hbody
      have hn1 : (a.name == "runtime.NumGoroutine") = false := by simpa using n1
      rcases h.ext f a hs hbody with ⟨e1, e2⟩ | ⟨e1, e2⟩
      · unfold Go.callFunc
        refine Plays.program ?_ ?_
        · rw [hs, e1]
        · rw [e1]
          dsimp only
          rw [hn1, if_neg (by simp), if_pos hbody1, n2]
          refine Plays.bind (Lead.mark _ (.inl ⟨_, rfl⟩)) fun _ => ?_
          dsimp only
          cases he : Extern.find a with
          | some e => exact Plays.value (e2 e he args)
          | none =>
            dsimp only
            exact Plays.ite (Plays.pure trivial) (Plays.soft _)
      · refine dead fun w => ⟨.unsupported (.extern a.name), w, ?_, by simp [Soft]⟩
        unfold Go.callFunc
        show (Sem.bind Go.program _).run V.sh w = _
        rw [Sem.run_bind' V.sh Go.program _ w]
        simp only [Go.program, Sem.run, Result.andThen, hs]
        rw [hn1, if_neg (by simp), if_pos hbody1, n2]
        show (Sem.bind (Go.mark _) _).run V.sh w = _
        rw [Sem.run_bind' V.sh (Go.mark _) _ w]
        simp only [Go.mark, Sem.run, Result.andThen, e1]
        rw [if_neg e2]
        rfl
theorem Plays.yield (h : Tab V) (l : Nat) (args : Array Value) : Plays V (Instr.yield l args) := by
  have e : Instr.yield l args = (Go.getObj l >>= fun o => (match o with | .loop r => Pure.pure r | _ => Go.stuck "range over a function: no such loop" : Sem Loop) >>= fun r => (do
      if args.size ≠ r.params.size then Go.stuck "yield: the wrong number of arguments"
      Pure.pure (.round l r.fn ((r.params.zip args).foldl (fun tmps (t, a) => tmps.setIfInBounds t a) r.tmps) r.assign r.body) : Sem Next)) := by
    unfold Instr.yield Instr.getLoop
    show Sem.bind (Sem.bind (Go.getObj l) _) _ = _
    rw [Sem.bind_assoc']
    rfl
  rw [e]
  have dead : ∀ (o : Obj) (f : Loop → Sem Next), Obj.calm o = true → ((match o with | .loop r => Pure.pure r | _ => Go.stuck "range over a function: no such loop" : Sem Loop) >>= f) = .halt (.stuck "range over a function: no such loop") := by
    intro o f ho
    cases o <;> first | rfl | cases ho
  refine ⟨Lead.getObjK _ (by intros; rfl) (.inr (by intros; exact ⟨_, _, rfl, by simp [Soft]⟩)) fun o ho => ?_, ?_⟩
  · rw [dead o _ ho]
    exact Lead.soft _
  · intro ht w n w' hc e
    have e' : (Sem.bind (Go.getObj l) _).run V.sh w = .ok n w' := e
    rw [Sem.run_bind' V.sh (Go.getObj l) _ w] at e'
    cases hr : (Go.getObj l).run V.sh w with
    | halt a v =>
      rw [hr] at e'
      cases e'
    | ok o v =>
      rw [hr] at e'
      have ho : Obj.calm o = true := by
        unfold Go.getObj at hr
        simp only [Sem.run] at hr
        split at hr
        · cases hr
        · rename_i o' _ heq
          cases hr
          exact hc _ _ heq
        · cases hr
      simp only [Result.andThen] at e'
      rw [dead o _ ho] at e'
      cases e'
theorem Plays.callMethod (h : FuncsOk V) (recv : Value) (name : String) (args : Array Value) : Plays V (Go.callMethod recv name args) := by
  unfold Go.callMethod
  split
  · refine Plays.program (by rw [h.tab.tables]) ?_
    refine Plays.bind (Lead.method h.tab _ _ _ _) fun r => ?_
    dsimp only
    exact Plays.callFunc h _ _
  · exact Plays.panic h.tab _
  · exact Plays.soft _
end
end Go.Proofs.YtnikgcedifdaeaaGreatDoor.Lift
end
