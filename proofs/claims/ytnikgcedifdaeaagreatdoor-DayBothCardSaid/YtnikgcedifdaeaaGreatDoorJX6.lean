/- Texts of the proof, joined by a program (part 6): contracts of functions, plain laws. -/
import Derived.Test.YtnikgcedifdaeaaGreatDoorJX5
import Derived.Conc.BesideWords
import Derived.Conc.AppendWalk
import Derived.Conc.TokenWalk
import Derived.Conc.FxBegin
set_option linter.unusedVariables false
set_option linter.unusedSimpArgs false
set_option linter.unusedSectionVars false
section
/- The child of sabbath.upto: from its birth to its select, from select to select, and to its release. -/
set_option linter.unusedSectionVars false
set_option linter.unusedVariables false
set_option linter.unusedSimpArgs false
namespace Go.Proofs.YtnikgcedifdaeaaGreatDoor.Up
open Go Go.Conc Go.ConcX Go.RowKit Go.Conc.Lib Go.ConcX.Gen Go.Proofs.YtnikgcedifdaeaaGreatDoor.Lift
instance : Payload := ⟨3⟩
abbrev fK : FuncId := 129
abbrev fF : FuncId := 131
noncomputable def bodyK : Code := Tryz.f129.body.getD .skip
noncomputable def bodyF : Code := Tryz.f131.body.getD .skip
noncomputable def opsK : Array Oper := match bodyK with | .seq _ (.region _ ops _) => ops | _ => #[]
noncomputable def LF : Code := match bodyF with | .seq _ (.block _ (.loop c)) => c | _ => .skip
noncomputable def XF : Code := match LF with | .seq (.block _ x) _ => x | _ => .skip
noncomputable def r1F : Code := match LF with | .seq _ r => r | _ => .skip
noncomputable def opsS : Array Oper := match XF with | .seq _ (.seq (.region _ ops _) _) => ops | _ => #[]
noncomputable def b2F : Code := match XF with | .seq _ (.seq _ b) => b | _ => .skip
noncomputable def botK : Frame := { (default : Frame) with fn := Tryz.prog.funcs.size, defers := [], mode := .panicking [goexitEntry] }
def ptr (b : Nat) : Value := .pointer (some ⟨b, 0, none⟩)
def callK (bS bO bE Wg : Nat) : Deferred := { target := .fn (.func fK) #[ptr Wg, ptr bS, ptr bO, ptr bE], args := #[] }
theorem born_step (bS bO bE Wg : Nat) (w : World) : stepG Tryz.prog false (born Tryz.prog (callK bS bO bE Wg)) w =
    .go (G ((baseD fK).at ⟨#[ptr Wg, ptr bS, ptr bO, ptr bE, undef, undef, undef, undef], []⟩ [.code bodyK]) [botK]) w #[] := by
  simp [born, callK, stepG, unwind, callDeferred, invoke, callFunc, Tryz.func129, Tryz.f129, seen, GStep.after, G, Frame.enter, Frame.at, baseD, bodyK, botK]
/-- What the child knows of the world. -/
structure KR (bS bO bE Out End : Nat) (x : Int) (w : World) : Prop where
  s : w.cell? ⟨bS, 0, none⟩ = some (.int .i64 x)
  o : w.cell? ⟨bO, 0, none⟩ = some (.chan (some Out))
  e : w.cell? ⟨bE, 0, none⟩ = some (.chan (some End))
/-- Where all lies. -/
structure Lay (bS bO bE Out End Wg Low : Nat) : Prop where
  s : bS < Low ∧ bS ≠ Out ∧ bS ≠ End ∧ bS ≠ Wg
  o : bO < Low ∧ bO ≠ Out ∧ bO ≠ End ∧ bO ≠ Wg ∧ bO ≠ bS
  e : bE < Low ∧ bE ≠ Out ∧ bE ≠ End ∧ bE ≠ Wg ∧ bE ≠ bS
  out : Out < Low ∧ Out ≠ End ∧ Out ≠ Wg ∧ Out ≠ bS
  end_ : End < Low ∧ End ≠ Wg ∧ End ≠ bS
  wg : Wg < Low
def Mine (Low End : Nat) : Loc → Prop := fun l => (∃ a, l = .cell a ∧ Low ≤ a.block) ∨ l = .obj End
section
variable {bS bO bE Out End Wg Low : Nat} [Shy Wg bS] {x : Int} {w w₁ : World}
theorem KR.rely (hL : Lay bS bO bE Out End Wg Low) (h : KR bS bO bE Out End x w) (r : RK Low Out End Wg w w₁) : KR bS bO bE Out End x w₁ :=
  ⟨(World.cell?_of_block (r bS hL.s.1 hL.s.2.1 hL.s.2.2.1 hL.s.2.2.2)).trans h.s, (World.cell?_of_block (r bO hL.o.1 hL.o.2.1 hL.o.2.2.1 hL.o.2.2.2.1)).trans h.o, (World.cell?_of_block (r bE hL.e.1 hL.e.2.1 hL.e.2.2.1 hL.e.2.2.2.1)).trans h.e⟩
theorem dk_none {M : Loc → Prop} {w : World} {es : Array Event} (h : ∀ e ∈ es, False) : DK M Wg bS w w es := ⟨⟨w.drawn, rfl⟩, fun e he => (h e he).elim⟩
theorem termsK {M : Loc → Prop} : Terms (RK Low Out End Wg) (DK M Wg bS) := ⟨fun _ _ _ h k => RK.trans h k, fun w => ⟨⟨w.drawn, rfl⟩, by simp⟩⟩
theorem drawK {M : Loc → Prop} : LetsDraw (DK M Wg bS) := fun w => ⟨⟨_, rfl⟩, by simp⟩
theorem evK_read (hE : End ≠ Wg) (a : Addr) (h : a.block < Low) (hw : a.block ≠ Wg) (h' : a.block ≠ bS) (hk : Shy.ok Wg bS (.access ⟨.cell a, false, false⟩)) : EvQ (Mine Low End) Wg bS 1 ⟨.cell a, false, false⟩ := by
  refine ⟨fun fn pos => ⟨rfl, fun y hy => ?_, by rw [ofEvent_cell]; simp, by rw [ofEvent_cell]; exact hk⟩, by simp, by simp, by simp⟩
  simp only [ofEvent_cell, MemAct.touch?, Option.some.injEq] at hy
  subst hy
  refine ⟨.inr (.inr ⟨rfl, rfl, ?_⟩), fun hs => ?_, fun ⟨y, hy, hyb, _⟩ => ?_⟩
  · rintro (⟨y, hy, hyb⟩ | hy)
    · cases hy; omega
    · cases hy
  · rcases hs with ⟨y, hy, hyb⟩ | hs
    · cases hy; exact absurd hyb hw
    · cases hs
  · cases hy; exact absurd hyb h'
theorem evK_theirs (hne : bS ≠ Wg) : EvQ (Mine Low End) Wg bS 1 ⟨.cell ⟨bS, 0, none⟩, false, false⟩ :=
  ⟨fun fn pos => by rw [ofEvent_cell]; exact okOp_theirs rfl hne _, by simp, by simp, by simp⟩
end
theorem d0_none {w : World} {es : Array Event} (h : ∀ e ∈ es, False) : Dq w w es := ⟨⟨w.drawn, rfl⟩, h⟩
/-- The frame of the go statement's closure, inside its call. -/
noncomputable def cK (bS bO bE Out End Wg : Nat) (x : Int) : Frame := (baseD fK).at ⟨#[ptr Wg, ptr bS, ptr bO, ptr bE, .int .i64 x, .chan (some Out), .chan (some End), undef], [dcall 130 #[ptr Wg]]⟩ [.inRegion opsK [3]]
/-- The temporaries at the select: J: what elder rounds have left. -/
def TS (Out End : Nat) (n : Int) (J : Nat → Value) : Array Value :=
  #[J 0, .chan (some Out), .chan (some End), J 3, J 4, J 5, .int .i64 n, J 7, J 8, J 9, J 10, .chan (some Out), .int .i64 n, .chan (some End), J 14, J 15, J 16, J 17]
noncomputable def kF : List Item := [.code b2F, .inBlock 1, .code r1F, .inLoop LF, .inBlock 0]
noncomputable def selG (bS bO bE Out End Wg : Nat) (x n : Int) (J : Nat → Value) : Goroutine := G ((base fF).at ⟨TS Out End n J, []⟩ (.inRegion opsS [0, 1, 2, 3] :: kF)) [cK bS bO bE Out End Wg x, botK]
def Sel (bS bO bE Out End Wg : Nat) (x : Int) (v : Value) (g : Goroutine) : Prop := ∃ n J, v = .int .i64 n ∧ g = selG bS bO bE Out End Wg x n J
section
variable {bS bO bE Out End Wg Low : Nat} [Shy Wg bS] {x : Int}
set_option maxRecDepth 100000 in
set_option maxHeartbeats 2000000 in
theorem kid1 (hL : Lay bS bO bE Out End Wg Low) (hko : Shy.ok Wg bS (.access ⟨.cell ⟨bO, 0, none⟩, false, false⟩)) (hke : Shy.ok Wg bS (.access ⟨.cell ⟨bE, 0, none⟩, false, false⟩)) (w : World) (hF : KR bS bO bE Out End x w) :
    ∃ m, Goes Tryz.prog false (RK Low Out End Wg) (DK (Mine Low End) Wg bS) (fun g _ => Sel bS bO bE Out End Wg x (.int .i64 (wf x)) g) m (born Tryz.prog (callK bS bO bE Wg)) w := by
  obtain ⟨nf, hsc⟩ := from_c (main := false) (termsK (M := Mine Low End) (bS := bS) (Out := Out) (End := End) (Wg := Wg) (Low := Low)) drawK (fun w => rk_at w (w.drawn + 1))
  refine ⟨(40 + nf + 3) + 13, Goes.step rfl fun w₁ r₁ => ?_⟩
  rw [born_step]
  refine ⟨dk_none (by simp), ?_⟩
  replace hF := hF.rely hL r₁
  clear r₁
  simp only [bodyK, Tryz.f129, Option.getD_some, ptr]
  ((refine Goes.step rfl (fun _ h₁ => ?_); replace hF := (KR.rely hL) hF h₁; clear h₁); rw [stepG_seq]; simp only [goes_go]; refine ⟨by ((first | refine dk_none ?_ | refine d0_none ?_ | u_none); intro e he; simp at he), ?_⟩)
  ((refine Goes.step rfl (fun _ h₁ => ?_); replace hF := (KR.rely hL) hF h₁; clear h₁); rw [stepG_region]; simp only [goes_go, List.size_toArray, List.length_cons, List.length_nil, Nat.reduceAdd, Nat.zero_add, List.range, List.range.loop]; refine ⟨by ((first | refine dk_none ?_ | refine d0_none ?_ | u_none); intro e he; simp at he), ?_⟩)
  ((refine Goes.step rfl (fun _ h₁ => ?_); replace hF := (KR.rely hL) hF h₁; clear h₁); rw [stepG_defer rfl rfl (by k_ne) rfl]; simp only [goes_go]; refine ⟨by ((first | refine dk_none ?_ | refine d0_none ?_ | u_none); intro e he; simp at he), ?_⟩; walk_nrm)
  ((refine Goes.step rfl (fun _ h₁ => ?_); replace hF := (KR.rely hL) hF h₁; clear h₁); rw [stepG_region_end]; simp only [goes_go]; refine ⟨by ((first | refine dk_none ?_ | refine d0_none ?_ | u_none); intro e he; simp at he), ?_⟩)
  ((refine Goes.step rfl (fun _ h₁ => ?_); replace hF := (KR.rely hL) hF h₁; clear h₁); rw [stepG_region]; simp only [goes_go, List.size_toArray, List.length_cons, List.length_nil, Nat.reduceAdd, Nat.zero_add, List.range, List.range.loop]; refine ⟨by ((first | refine dk_none ?_ | refine d0_none ?_ | u_none); intro e he; simp at he), ?_⟩)
  ((refine Goes.step rfl (fun _ h₁ => ?_); replace hF := (KR.rely hL) hF h₁; clear h₁)
   refine goes_oper_k rfl rfl (by decide) (fun K hK => ?_)
   have hfs := KR.s hF
   go_simp
   refine hK _ _ ⟨⟨(⟨_, rfl⟩), fun e he => ?_⟩, ?_⟩
   · have hm := mem_listed he
     simp [go_sem, *] at hm
     try (subst hm; exact (evK_theirs hL.s.2.2.2))
   clear hK K hfs)
  ((refine Goes.step rfl (fun _ h₁ => ?_); replace hF := (KR.rely hL) hF h₁; clear h₁)
   refine goes_oper_k rfl rfl (by decide) (fun K hK => ?_)
   have hfs := KR.o hF
   go_simp
   refine hK _ _ ⟨⟨(⟨_, rfl⟩), fun e he => ?_⟩, ?_⟩
   · have hm := mem_listed he
     simp [go_sem, *] at hm
     try (subst hm; exact (evK_read hL.end_.2.1 _ hL.o.1 hL.o.2.2.2.1 hL.o.2.2.2.2 hko))
   clear hK K hfs)
  ((refine Goes.step rfl (fun _ h₁ => ?_); replace hF := (KR.rely hL) hF h₁; clear h₁)
   refine goes_oper_k rfl rfl (by decide) (fun K hK => ?_)
   have hfs := KR.e hF
   go_simp
   refine hK _ _ ⟨⟨(⟨_, rfl⟩), fun e he => ?_⟩, ?_⟩
   · have hm := mem_listed he
     simp [go_sem, *] at hm
     try (subst hm; exact (evK_read hL.end_.2.1 _ hL.e.1 hL.e.2.2.2.1 hL.e.2.2.2.2 hke))
   clear hK K hfs)
  ((refine Goes.step rfl (fun _ h₁ => ?_); replace hF := (KR.rely hL) hF h₁; clear h₁); refine goes_call rfl rfl (by k_ne) rfl Tryz.func131 (by kernel_rfl) rfl ⟨by ((first | refine dk_none ?_ | refine d0_none ?_ | u_none); intro e he; simp at he), ?_⟩; walk_nrmf Tryz.f131)
  ((refine Goes.step rfl (fun _ h₁ => ?_); replace hF := (KR.rely hL) hF h₁; clear h₁); rw [stepG_seq]; simp only [goes_go]; refine ⟨by ((first | refine dk_none ?_ | refine d0_none ?_ | u_none); intro e he; simp at he), ?_⟩)
  ((refine Goes.step rfl (fun _ h₁ => ?_); replace hF := (KR.rely hL) hF h₁; clear h₁); rw [stepG_region]; simp only [goes_go, List.size_toArray, List.length_cons, List.length_nil, Nat.reduceAdd, Nat.zero_add, List.range, List.range.loop]; refine ⟨by ((first | refine dk_none ?_ | refine d0_none ?_ | u_none); intro e he; simp at he), ?_⟩)
  ((refine Goes.step rfl (fun _ h₁ => ?_); replace hF := (KR.rely hL) hF h₁; clear h₁)
   refine goes_oper_k rfl rfl (by k_ne) (fun K hK => ?_)
   go_simp
   refine hK _ _ ⟨?_, ?_⟩
   · first | refine dk_none ?_ | refine d0_none ?_ | u_none
     intro e he
     have hm := mem_listed he
     simp [go_sem, *] at hm
   clear hK K
   try w_num)
  co_apply Goes.call (m := 40) (termsK (M := Mine Low End)) rfl rfl (by decide) rfl
  · walk_nrm
    exact hsc _ _
  intro v w' hp
  obtain ⟨he, hs⟩ := hp
  subst he
  replace hF : KR bS bO bE Out End x w' := hs.elim (fun e => e ▸ hF) (hF.rely hL)
  clear hs
  walk_nrm
  ((refine Goes.step rfl (fun _ h₁ => ?_); replace hF := (KR.rely hL) hF h₁; clear h₁)
   refine goes_oper_k rfl rfl (by k_ne) (fun K hK => ?_)
   go_simp
   refine hK _ _ ⟨?_, ?_⟩
   · first | refine dk_none ?_ | refine d0_none ?_ | u_none
     intro e he
     have hm := mem_listed he
     simp [go_sem, *] at hm
   clear hK K
   try w_num)
  ((refine Goes.step rfl (fun _ h₁ => ?_); replace hF := (KR.rely hL) hF h₁; clear h₁); rw [stepG_region_end]; simp only [goes_go]; refine ⟨by ((first | refine dk_none ?_ | refine d0_none ?_ | u_none); intro e he; simp at he), ?_⟩)
  ((refine Goes.step rfl (fun _ h₁ => ?_); replace hF := (KR.rely hL) hF h₁; clear h₁); rw [stepG_block]; simp only [goes_go]; refine ⟨by ((first | refine dk_none ?_ | refine d0_none ?_ | u_none); intro e he; simp at he), ?_⟩)
  ((refine Goes.step rfl (fun _ h₁ => ?_); replace hF := (KR.rely hL) hF h₁; clear h₁); rw [stepG_loop]; simp only [goes_go]; refine ⟨by ((first | refine dk_none ?_ | refine d0_none ?_ | u_none); intro e he; simp at he), ?_⟩)
  ((refine Goes.step rfl (fun _ h₁ => ?_); replace hF := (KR.rely hL) hF h₁; clear h₁); rw [stepG_seq]; simp only [goes_go]; refine ⟨by ((first | refine dk_none ?_ | refine d0_none ?_ | u_none); intro e he; simp at he), ?_⟩)
  ((refine Goes.step rfl (fun _ h₁ => ?_); replace hF := (KR.rely hL) hF h₁; clear h₁); rw [stepG_block]; simp only [goes_go]; refine ⟨by ((first | refine dk_none ?_ | refine d0_none ?_ | u_none); intro e he; simp at he), ?_⟩)
  ((refine Goes.step rfl (fun _ h₁ => ?_); replace hF := (KR.rely hL) hF h₁; clear h₁); rw [stepG_seq]; simp only [goes_go]; refine ⟨by ((first | refine dk_none ?_ | refine d0_none ?_ | u_none); intro e he; simp at he), ?_⟩)
  ((refine Goes.step rfl (fun _ h₁ => ?_); replace hF := (KR.rely hL) hF h₁; clear h₁); rw [stepG_seq]; simp only [goes_go]; refine ⟨by ((first | refine dk_none ?_ | refine d0_none ?_ | u_none); intro e he; simp at he), ?_⟩)
  ((refine Goes.step rfl (fun _ h₁ => ?_); replace hF := (KR.rely hL) hF h₁; clear h₁); rw [stepG_seq]; simp only [goes_go]; refine ⟨by ((first | refine dk_none ?_ | refine d0_none ?_ | u_none); intro e he; simp at he), ?_⟩)
  ((refine Goes.step rfl (fun _ h₁ => ?_); replace hF := (KR.rely hL) hF h₁; clear h₁); rw [stepG_region]; simp only [goes_go, List.size_toArray, List.length_cons, List.length_nil, Nat.reduceAdd, Nat.zero_add, List.range, List.range.loop]; refine ⟨by ((first | refine dk_none ?_ | refine d0_none ?_ | u_none); intro e he; simp at he), ?_⟩)
  ((refine Goes.step rfl (fun _ h₁ => ?_); replace hF := (KR.rely hL) hF h₁; clear h₁)
   refine goes_oper_k rfl rfl (by k_ne) (fun K hK => ?_)
   go_simp
   refine hK _ _ ⟨?_, ?_⟩
   · first | refine dk_none ?_ | refine d0_none ?_ | u_none
     intro e he
     have hm := mem_listed he
     simp [go_sem, *] at hm
   clear hK K
   try w_num)
  ((refine Goes.step rfl (fun _ h₁ => ?_); replace hF := (KR.rely hL) hF h₁; clear h₁); rw [stepG_region_end]; simp only [goes_go]; refine ⟨by ((first | refine dk_none ?_ | refine d0_none ?_ | u_none); intro e he; simp at he), ?_⟩)
  ((refine Goes.step rfl (fun _ h₁ => ?_); replace hF := (KR.rely hL) hF h₁; clear h₁); rw [stepG_region]; simp only [goes_go, List.size_toArray, List.length_cons, List.length_nil, Nat.reduceAdd, Nat.zero_add, List.range, List.range.loop]; refine ⟨by ((first | refine dk_none ?_ | refine d0_none ?_ | u_none); intro e he; simp at he), ?_⟩)
  ((refine Goes.step rfl (fun _ h₁ => ?_); replace hF := (KR.rely hL) hF h₁; clear h₁)
   refine goes_oper_k rfl rfl (by k_ne) (fun K hK => ?_)
   go_simp
   refine hK _ _ ⟨?_, ?_⟩
   · first | refine dk_none ?_ | refine d0_none ?_ | u_none
     intro e he
     have hm := mem_listed he
     simp [go_sem, *] at hm
   clear hK K
   try w_num)
  ((refine Goes.step rfl (fun _ h₁ => ?_); replace hF := (KR.rely hL) hF h₁; clear h₁); rw [stepG_region_end]; simp only [goes_go]; refine ⟨by ((first | refine dk_none ?_ | refine d0_none ?_ | u_none); intro e he; simp at he), ?_⟩)
  ((refine Goes.step rfl (fun _ h₁ => ?_); replace hF := (KR.rely hL) hF h₁; clear h₁); rw [stepG_region]; simp only [goes_go, List.size_toArray, List.length_cons, List.length_nil, Nat.reduceAdd, Nat.zero_add, List.range, List.range.loop]; refine ⟨by ((first | refine dk_none ?_ | refine d0_none ?_ | u_none); intro e he; simp at he), ?_⟩)
  ((refine Goes.step rfl (fun _ h₁ => ?_); replace hF := (KR.rely hL) hF h₁; clear h₁)
   refine goes_oper_k rfl rfl (by k_ne) (fun K hK => ?_)
   go_simp
   refine hK _ _ ⟨?_, ?_⟩
   · first | refine dk_none ?_ | refine d0_none ?_ | u_none
     intro e he
     have hm := mem_listed he
     simp [go_sem, *] at hm
   clear hK K
   try w_num)
  ((refine Goes.step rfl (fun _ h₁ => ?_); replace hF := (KR.rely hL) hF h₁; clear h₁); rw [stepG_region_end]; simp only [goes_go]; refine ⟨by ((first | refine dk_none ?_ | refine d0_none ?_ | u_none); intro e he; simp at he), ?_⟩)
  ((refine Goes.step rfl (fun _ h₁ => ?_); replace hF := (KR.rely hL) hF h₁; clear h₁); rw [stepG_seq]; simp only [goes_go]; refine ⟨by ((first | refine dk_none ?_ | refine d0_none ?_ | u_none); intro e he; simp at he), ?_⟩)
  ((refine Goes.step rfl (fun _ h₁ => ?_); replace hF := (KR.rely hL) hF h₁; clear h₁); rw [stepG_region]; simp only [goes_go, List.size_toArray, List.length_cons, List.length_nil, Nat.reduceAdd, Nat.zero_add, List.range, List.range.loop]; refine ⟨by ((first | refine dk_none ?_ | refine d0_none ?_ | u_none); intro e he; simp at he), ?_⟩)
  refine Goes.stop (fun w₂ r₂ => ⟨wf x, fun i => match i with
    | 0 => .int .i64 x | 3 => undef | 4 => undef | 5 => undef | 7 => .int .i64 x | 8 => .int .i64 (wf x) | _ => undef, rfl, ?_⟩)
  rfl
end
/-- Behind the select. -/
def T14 (Out End : Nat) (n : Int) (J : Nat → Value) (r : Value) : Array Value :=
  #[J 0, .chan (some Out), .chan (some End), J 3, J 4, J 5, .int .i64 n, J 7, J 8, J 9, J 10, .chan (some Out), .int .i64 n, .chan (some End), r, J 15, J 16, J 17]
theorem sel_comm (bS bO bE Out End Wg : Nat) (x n : Int) (J : Nat → Value) (w : World) :
    stepG Tryz.prog false (selG bS bO bE Out End Wg x n J) w = .comm (selG bS bO bE Out End Wg x n J) (cs2 Out End (.int .i64 0) (.agg #[]) (.int .i64 n)) true .select w #[] := by
  have hr : (execOp (Act.eval ⟨TS Out End n J, []⟩) (opsS.getD 0 default)).run Tryz.prog w = .ok (.comm (cs2 Out End (.int .i64 0) (.agg #[]) (.int .i64 n)) true .select) w := by
    simp only [opsS, XF, LF, bodyF, Tryz.f131, Option.getD_some, TS]
    go_simp
    rfl
  have he : (execOp (Act.eval ⟨TS Out End n J, []⟩) (opsS.getD 0 default)).events Tryz.prog w #[] = #[] := by
    simp only [opsS, XF, LF, bodyF, Tryz.f131, Option.getD_some, TS]
    simp [go_sem]
  have := stepG_comm (P := Tryz.prog) (main := false) (b := base fF) (a := ⟨TS Out End n J, []⟩) (ops := opsS) (i := 0) (rest := [1, 2, 3]) (k := kF) (cs := [cK bS bO bE Out End Wg x, botK]) (o := opsS.getD 0 default) rfl rfl (by decide) hr
  rw [listed_nil he] at this
  exact this
theorem sel_finish (bS bO bE Out End Wg : Nat) (x n : Int) (J : Nat → Value) (k : Int) (v : Value) (ok : Bool) :
    (selG bS bO bE Out End Wg x n J).finishComm Tryz.prog (cs2 Out End (.int .i64 0) (.agg #[]) (.int .i64 n)) .select k v ok =
      G ((base fF).at ⟨T14 Out End n J (.tuple #[goInt k, .bool ok, if (1 : Int) = k then v else .agg #[]]), []⟩ (.inRegion opsS [1, 2, 3] :: kF)) [cK bS bO bE Out End Wg x, botK] := by
  unfold Goroutine.finishComm selG
  simp only [G, Frame.finish_at]
  have : commResult (cs2 Out End (.int .i64 0) (.agg #[]) (.int .i64 n)) .select k v ok = .tuple #[goInt k, .bool ok, if (1 : Int) = k then v else .agg #[]] := by
    simp [commResult, cs2, scase, rcase]
  rw [this]
  rfl
section
variable {bS bO bE Out End Wg Low : Nat} [Shy Wg bS] {x : Int}
def KT (w : World) : Prop := True
theorem kt_rely {R : World → World → Prop} {w w₁ : World} (h : KT w) (r : R w w₁) : KT w₁ := trivial
omit [Shy Wg bS] in
set_option maxRecDepth 100000 in
set_option maxHeartbeats 2000000 in
theorem kid2 (n : Int) (J : Nat → Value) (w : World) : ∃ m, Goes Tryz.prog false (RK Low Out End Wg) Dq (fun g _ => Sel bS bO bE Out End Wg x (.int .i64 (IntKind.i64.wrap (n + 7))) g) m
    ((selG bS bO bE Out End Wg x n J).finishComm Tryz.prog (cs2 Out End (.int .i64 0) (.agg #[]) (.int .i64 n)) .select 0 undef false) w := by
  rw [sel_finish]
  have hF : KT w := trivial
  refine ⟨60, ?_⟩
  simp only [T14, opsS, kF, b2F, r1F, XF, LF, bodyF, Tryz.f131, Option.getD_some]
  ((refine Goes.step rfl (fun _ h₁ => ?_); replace hF := kt_rely hF h₁; clear h₁)
   refine goes_oper_k rfl rfl (by k_ne) (fun K hK => ?_)
   go_simp
   refine hK _ _ ⟨?_, ?_⟩
   · first | refine dk_none ?_ | refine d0_none ?_ | u_none
     intro e he
     have hm := mem_listed he
     simp [go_sem, *] at hm
   clear hK K
   try w_num)
  ((refine Goes.step rfl (fun _ h₁ => ?_); replace hF := kt_rely hF h₁; clear h₁)
   refine goes_oper_k rfl rfl (by k_ne) (fun K hK => ?_)
   go_simp
   refine hK _ _ ⟨?_, ?_⟩
   · first | refine dk_none ?_ | refine d0_none ?_ | u_none
     intro e he
     have hm := mem_listed he
     simp [go_sem, *] at hm
   clear hK K
   try w_num)
  ((refine Goes.step rfl (fun _ h₁ => ?_); replace hF := kt_rely hF h₁; clear h₁)
   refine goes_oper_k rfl rfl (by k_ne) (fun K hK => ?_)
   go_simp
   refine hK _ _ ⟨?_, ?_⟩
   · first | refine dk_none ?_ | refine d0_none ?_ | u_none
     intro e he
     have hm := mem_listed he
     simp [go_sem, *] at hm
   clear hK K
   try w_num)
  ((refine Goes.step rfl (fun _ h₁ => ?_); replace hF := kt_rely hF h₁; clear h₁); rw [stepG_region_end]; simp only [goes_go]; refine ⟨by ((first | refine dk_none ?_ | refine d0_none ?_ | u_none); intro e he; simp at he), ?_⟩)
  ((refine Goes.step rfl (fun _ h₁ => ?_); replace hF := kt_rely hF h₁; clear h₁); rw [stepG_block]; simp only [goes_go]; refine ⟨by ((first | refine dk_none ?_ | refine d0_none ?_ | u_none); intro e he; simp at he), ?_⟩)
  ((refine Goes.step rfl (fun _ h₁ => ?_); replace hF := kt_rely hF h₁; clear h₁); rw [stepG_cond (t := true) rfl]; simp only [goes_go, if_true, if_false, Bool.false_eq_true, ↓reduceIte]; refine ⟨by ((first | refine dk_none ?_ | refine d0_none ?_ | u_none); intro e he; simp at he), ?_⟩)
  ((refine Goes.step rfl (fun _ h₁ => ?_); replace hF := kt_rely hF h₁; clear h₁); rw [stepG_skip]; simp only [goes_go]; refine ⟨by ((first | refine dk_none ?_ | refine d0_none ?_ | u_none); intro e he; simp at he), ?_⟩)
  ((refine Goes.step rfl (fun _ h₁ => ?_); replace hF := kt_rely hF h₁; clear h₁); rw [stepG_inBlock]; simp only [goes_go]; refine ⟨by ((first | refine dk_none ?_ | refine d0_none ?_ | u_none); intro e he; simp at he), ?_⟩)
  ((refine Goes.step rfl (fun _ h₁ => ?_); replace hF := kt_rely hF h₁; clear h₁); rw [stepG_inBlock]; simp only [goes_go]; refine ⟨by ((first | refine dk_none ?_ | refine d0_none ?_ | u_none); intro e he; simp at he), ?_⟩)
  ((refine Goes.step rfl (fun _ h₁ => ?_); replace hF := kt_rely hF h₁; clear h₁); rw [stepG_region]; simp only [goes_go, List.size_toArray, List.length_cons, List.length_nil, Nat.reduceAdd, Nat.zero_add, List.range, List.range.loop]; refine ⟨by ((first | refine dk_none ?_ | refine d0_none ?_ | u_none); intro e he; simp at he), ?_⟩)
  ((refine Goes.step rfl (fun _ h₁ => ?_); replace hF := kt_rely hF h₁; clear h₁)
   refine goes_oper_k rfl rfl (by k_ne) (fun K hK => ?_)
   go_simp
   refine hK _ _ ⟨?_, ?_⟩
   · first | refine dk_none ?_ | refine d0_none ?_ | u_none
     intro e he
     have hm := mem_listed he
     simp [go_sem, *] at hm
   clear hK K
   try w_num)
  ((refine Goes.step rfl (fun _ h₁ => ?_); replace hF := kt_rely hF h₁; clear h₁)
   refine goes_oper_k rfl rfl (by k_ne) (fun K hK => ?_)
   go_simp
   refine hK _ _ ⟨?_, ?_⟩
   · first | refine dk_none ?_ | refine d0_none ?_ | u_none
     intro e he
     have hm := mem_listed he
     simp [go_sem, *] at hm
   clear hK K
   try w_num)
  ((refine Goes.step rfl (fun _ h₁ => ?_); replace hF := kt_rely hF h₁; clear h₁)
   refine goes_oper_k rfl rfl (by k_ne) (fun K hK => ?_)
   go_simp
   refine hK _ _ ⟨?_, ?_⟩
   · first | refine dk_none ?_ | refine d0_none ?_ | u_none
     intro e he
     have hm := mem_listed he
     simp [go_sem, *] at hm
   clear hK K
   try w_num)
  ((refine Goes.step rfl (fun _ h₁ => ?_); replace hF := kt_rely hF h₁; clear h₁); rw [stepG_region_end]; simp only [goes_go]; refine ⟨by ((first | refine dk_none ?_ | refine d0_none ?_ | u_none); intro e he; simp at he), ?_⟩)
  ((refine Goes.step rfl (fun _ h₁ => ?_); replace hF := kt_rely hF h₁; clear h₁); rw [stepG_inLoop]; simp only [goes_go]; refine ⟨by ((first | refine dk_none ?_ | refine d0_none ?_ | u_none); intro e he; simp at he), ?_⟩)
  ((refine Goes.step rfl (fun _ h₁ => ?_); replace hF := kt_rely hF h₁; clear h₁); rw [stepG_seq]; simp only [goes_go]; refine ⟨by ((first | refine dk_none ?_ | refine d0_none ?_ | u_none); intro e he; simp at he), ?_⟩)
  ((refine Goes.step rfl (fun _ h₁ => ?_); replace hF := kt_rely hF h₁; clear h₁); rw [stepG_block]; simp only [goes_go]; refine ⟨by ((first | refine dk_none ?_ | refine d0_none ?_ | u_none); intro e he; simp at he), ?_⟩)
  ((refine Goes.step rfl (fun _ h₁ => ?_); replace hF := kt_rely hF h₁; clear h₁); rw [stepG_seq]; simp only [goes_go]; refine ⟨by ((first | refine dk_none ?_ | refine d0_none ?_ | u_none); intro e he; simp at he), ?_⟩)
  ((refine Goes.step rfl (fun _ h₁ => ?_); replace hF := kt_rely hF h₁; clear h₁); rw [stepG_seq]; simp only [goes_go]; refine ⟨by ((first | refine dk_none ?_ | refine d0_none ?_ | u_none); intro e he; simp at he), ?_⟩)
  ((refine Goes.step rfl (fun _ h₁ => ?_); replace hF := kt_rely hF h₁; clear h₁); rw [stepG_seq]; simp only [goes_go]; refine ⟨by ((first | refine dk_none ?_ | refine d0_none ?_ | u_none); intro e he; simp at he), ?_⟩)
  ((refine Goes.step rfl (fun _ h₁ => ?_); replace hF := kt_rely hF h₁; clear h₁); rw [stepG_region]; simp only [goes_go, List.size_toArray, List.length_cons, List.length_nil, Nat.reduceAdd, Nat.zero_add, List.range, List.range.loop]; refine ⟨by ((first | refine dk_none ?_ | refine d0_none ?_ | u_none); intro e he; simp at he), ?_⟩)
  ((refine Goes.step rfl (fun _ h₁ => ?_); replace hF := kt_rely hF h₁; clear h₁)
   refine goes_oper_k rfl rfl (by k_ne) (fun K hK => ?_)
   go_simp
   refine hK _ _ ⟨?_, ?_⟩
   · first | refine dk_none ?_ | refine d0_none ?_ | u_none
     intro e he
     have hm := mem_listed he
     simp [go_sem, *] at hm
   clear hK K
   try w_num)
  ((refine Goes.step rfl (fun _ h₁ => ?_); replace hF := kt_rely hF h₁; clear h₁); rw [stepG_region_end]; simp only [goes_go]; refine ⟨by ((first | refine dk_none ?_ | refine d0_none ?_ | u_none); intro e he; simp at he), ?_⟩)
  ((refine Goes.step rfl (fun _ h₁ => ?_); replace hF := kt_rely hF h₁; clear h₁); rw [stepG_region]; simp only [goes_go, List.size_toArray, List.length_cons, List.length_nil, Nat.reduceAdd, Nat.zero_add, List.range, List.range.loop]; refine ⟨by ((first | refine dk_none ?_ | refine d0_none ?_ | u_none); intro e he; simp at he), ?_⟩)
  ((refine Goes.step rfl (fun _ h₁ => ?_); replace hF := kt_rely hF h₁; clear h₁)
   refine goes_oper_k rfl rfl (by k_ne) (fun K hK => ?_)
   go_simp
   refine hK _ _ ⟨?_, ?_⟩
   · first | refine dk_none ?_ | refine d0_none ?_ | u_none
     intro e he
     have hm := mem_listed he
     simp [go_sem, *] at hm
   clear hK K
   try w_num)
  ((refine Goes.step rfl (fun _ h₁ => ?_); replace hF := kt_rely hF h₁; clear h₁); rw [stepG_region_end]; simp only [goes_go]; refine ⟨by ((first | refine dk_none ?_ | refine d0_none ?_ | u_none); intro e he; simp at he), ?_⟩)
  ((refine Goes.step rfl (fun _ h₁ => ?_); replace hF := kt_rely hF h₁; clear h₁); rw [stepG_region]; simp only [goes_go, List.size_toArray, List.length_cons, List.length_nil, Nat.reduceAdd, Nat.zero_add, List.range, List.range.loop]; refine ⟨by ((first | refine dk_none ?_ | refine d0_none ?_ | u_none); intro e he; simp at he), ?_⟩)
  ((refine Goes.step rfl (fun _ h₁ => ?_); replace hF := kt_rely hF h₁; clear h₁)
   refine goes_oper_k rfl rfl (by k_ne) (fun K hK => ?_)
   go_simp
   refine hK _ _ ⟨?_, ?_⟩
   · first | refine dk_none ?_ | refine d0_none ?_ | u_none
     intro e he
     have hm := mem_listed he
     simp [go_sem, *] at hm
   clear hK K
   try w_num)
  ((refine Goes.step rfl (fun _ h₁ => ?_); replace hF := kt_rely hF h₁; clear h₁); rw [stepG_region_end]; simp only [goes_go]; refine ⟨by ((first | refine dk_none ?_ | refine d0_none ?_ | u_none); intro e he; simp at he), ?_⟩)
  ((refine Goes.step rfl (fun _ h₁ => ?_); replace hF := kt_rely hF h₁; clear h₁); rw [stepG_seq]; simp only [goes_go]; refine ⟨by ((first | refine dk_none ?_ | refine d0_none ?_ | u_none); intro e he; simp at he), ?_⟩)
  ((refine Goes.step rfl (fun _ h₁ => ?_); replace hF := kt_rely hF h₁; clear h₁); rw [stepG_region]; simp only [goes_go, List.size_toArray, List.length_cons, List.length_nil, Nat.reduceAdd, Nat.zero_add, List.range, List.range.loop]; refine ⟨by ((first | refine dk_none ?_ | refine d0_none ?_ | u_none); intro e he; simp at he), ?_⟩)
  refine Goes.stop (fun w₂ r₂ => ⟨_, fun i => match i with
    | 0 => J 0 | 3 => J 3 | 4 => J 4 | 5 => J 5 | 7 => J 7 | 8 => J 8 | 9 => .int .i64 n | 10 => .int .i64 (IntKind.i64.wrap (n + 7)) | 14 => .tuple #[goInt ((0 : Nat) : Int), .bool false, .agg #[]] | 15 => .int .i64 0 | 16 => .bool true | 17 => .bool false | _ => undef, rfl, ?_⟩)
  rfl
set_option maxRecDepth 100000 in
theorem quitsTail (T : Array Value) : QuitsD Tryz.prog 2 0 (G { (baseD fK).at ⟨T, []⟩ [] with mode := .returning } [botK]) := by
  refine QuitsD.ctl (g' := G botK []) rfl (fun w => ?_) ?_
  · simp [G, stepG, unwind, doReturn, results, Frame.at, baseD, botK, Tryz.func129, Tryz.f129, seen, GStep.after, goexitEntry]
  refine QuitsD.ctl (g' := { G botK [] with status := .finished }) rfl (fun w => ?_) ⟨rfl, rfl⟩
  simp [G, stepG, unwind, botK, goexitEntry, Frame.catches]
  rfl
set_option maxRecDepth 100000 in
set_option maxHeartbeats 2000000 in
theorem kid3 (hL : Lay bS bO bE Out End Wg Low) (vals : List Value) (n : Int) (J : Nat → Value) (w : World) (hF : KCa 148 Wg w ∧ Full bS vals w) :
    ∃ m, Goes Tryz.prog false (RCa 148 Wg Low) (DCs (Mine Low End) Wg bS) (AtR0 Tryz.prog 148 Wg bS Low vals) m
      ((selG bS bO bE Out End Wg x n J).finishComm Tryz.prog (cs2 Out End (.int .i64 0) (.agg #[]) (.int .i64 n)) .select 1 (.agg #[]) false) w := by
  rw [sel_finish]
  have hCW := hL.s.2.2.2
  have kr : ∀ {w w₁ : World}, (KCa 148 Wg w ∧ Full bS vals w) → RCa 148 Wg Low w w₁ → KCa 148 Wg w₁ ∧ Full bS vals w₁ := fun h r => ka_rely (L := link) hL.s.1 hCW h r
  refine ⟨60, ?_⟩
  simp only [T14, opsS, kF, b2F, r1F, XF, LF, bodyF, Tryz.f131, Option.getD_some]
  ((refine Goes.step rfl (fun _ h₁ => ?_); replace hF := kr hF h₁; clear h₁)
   refine goes_oper_k rfl rfl (by k_ne) (fun K hK => ?_)
   go_simp
   refine hK _ _ ⟨?_, ?_⟩
   · first | refine dk_none ?_ | refine d0_none ?_ | u_none
     intro e he
     have hm := mem_listed he
     simp [go_sem, *] at hm
   clear hK K
   try w_num)
  ((refine Goes.step rfl (fun _ h₁ => ?_); replace hF := kr hF h₁; clear h₁)
   refine goes_oper_k rfl rfl (by k_ne) (fun K hK => ?_)
   go_simp
   refine hK _ _ ⟨?_, ?_⟩
   · first | refine dk_none ?_ | refine d0_none ?_ | u_none
     intro e he
     have hm := mem_listed he
     simp [go_sem, *] at hm
   clear hK K
   try w_num)
  ((refine Goes.step rfl (fun _ h₁ => ?_); replace hF := kr hF h₁; clear h₁)
   refine goes_oper_k rfl rfl (by k_ne) (fun K hK => ?_)
   go_simp
   refine hK _ _ ⟨?_, ?_⟩
   · first | refine dk_none ?_ | refine d0_none ?_ | u_none
     intro e he
     have hm := mem_listed he
     simp [go_sem, *] at hm
   clear hK K
   try w_num)
  ((refine Goes.step rfl (fun _ h₁ => ?_); replace hF := kr hF h₁; clear h₁); rw [stepG_region_end]; simp only [goes_go]; refine ⟨by ((first | refine dk_none ?_ | refine d0_none ?_ | u_none); intro e he; simp at he), ?_⟩)
  ((refine Goes.step rfl (fun _ h₁ => ?_); replace hF := kr hF h₁; clear h₁); rw [stepG_block]; simp only [goes_go]; refine ⟨by ((first | refine dk_none ?_ | refine d0_none ?_ | u_none); intro e he; simp at he), ?_⟩)
  ((refine Goes.step rfl (fun _ h₁ => ?_); replace hF := kr hF h₁; clear h₁); rw [stepG_cond (t := false) rfl]; simp only [goes_go, if_true, if_false, Bool.false_eq_true, ↓reduceIte]; refine ⟨by ((first | refine dk_none ?_ | refine d0_none ?_ | u_none); intro e he; simp at he), ?_⟩)
  ((refine Goes.step rfl (fun _ h₁ => ?_); replace hF := kr hF h₁; clear h₁); rw [stepG_cond (t := true) rfl]; simp only [goes_go, if_true, if_false, Bool.false_eq_true, ↓reduceIte]; refine ⟨by ((first | refine dk_none ?_ | refine d0_none ?_ | u_none); intro e he; simp at he), ?_⟩)
  ((refine Goes.step rfl (fun _ h₁ => ?_); replace hF := kr hF h₁; clear h₁); rw [stepG_ret']; simp only [goes_go]; refine ⟨by ((first | refine dk_none ?_ | refine d0_none ?_ | u_none); intro e he; simp at he), ?_⟩)
  simp only [cK, opsK, bodyK, Tryz.f129, Option.getD_some, ptr]
  ((refine Goes.step rfl (fun _ h₁ => ?_); replace hF := kr hF h₁; clear h₁); refine goes_leave0 rfl rfl Tryz.func131 rfl ⟨by ((first | refine dk_none ?_ | refine d0_none ?_ | u_none); intro e he; simp at he), ?_⟩; walk_nrm)
  ((refine Goes.step rfl (fun _ h₁ => ?_); replace hF := kr hF h₁; clear h₁); rw [stepG_region_end]; simp only [goes_go]; refine ⟨by ((first | refine dk_none ?_ | refine d0_none ?_ | u_none); intro e he; simp at he), ?_⟩)
  ((refine Goes.step rfl (fun _ h₁ => ?_); replace hF := kr hF h₁; clear h₁); rw [stepG_end]; simp only [goes_go]; refine ⟨by ((first | refine dk_none ?_ | refine d0_none ?_ | u_none); intro e he; simp at he), ?_⟩)
  ((refine Goes.step rfl (fun _ h₁ => ?_); replace hF := kr hF h₁; clear h₁); rw [stepG_unwind_enter rfl Tryz.func130 (nm_done link) rfl]; simp only [goes_go]; refine ⟨by ((first | refine dk_none ?_ | refine d0_none ?_ | u_none); intro e he; simp at he), ?_⟩; walk_nrmf Tryz.f130)
  have hA := @doneD _ link Tryz.prog wgLib (Mine Low End) Wg bS Low _ vals hL.wg hL.s.1 hCW
  simp only [body_done, doneFn, Option.getD_some] at hA
  exact (hA rfl (quitsTail _) _ hF).mono (by omega)
def nx : Value → Value
  | .int .i64 n => .int .i64 (IntKind.i64.wrap (n + 7))
  | v => v
omit [Shy Wg bS] in
theorem kidOk : KidOk Tryz.prog Wg Low Out End (.int .i64 0) (.agg #[]) .select (Sel bS bO bE Out End Wg x) nx where
  run := by rintro v g ⟨n, J, rfl, rfl⟩; rfl
  comm := by rintro v g ⟨n, J, rfl, rfl⟩ w; exact sel_comm bS bO bE Out End Wg x n J w
  next := by rintro v g ⟨n, J, rfl, rfl⟩ w; exact kid2 n J w
theorem finishes (hL : Lay bS bO bE Out End Wg Low) (vals : List Value) : Finishes Tryz.prog 148 (Mine Low End) Wg bS Low Out End (.int .i64 0) (.agg #[]) .select (Sel bS bO bE Out End Wg x) vals := by
  rintro v g ⟨n, J, rfl, rfl⟩ w hF
  exact kid3 hL vals n J w hF
end
end Go.Proofs.YtnikgcedifdaeaaGreatDoor.Up
end

section
/- The caller's own stretches: from upto's entry to Add's call. -/
set_option linter.unusedSectionVars false
set_option linter.unusedVariables false
set_option linter.unusedSimpArgs false
namespace Go.Proofs.YtnikgcedifdaeaaGreatDoor.Up
open Go Go.Conc Go.ConcX Go.RowKit Go.Conc.Lib Go.ConcX.Gen Go.Proofs.YtnikgcedifdaeaaGreatDoor.Lift
abbrev fU : FuncId := 78
abbrev bU (k : CallKind) : Frame := { base fU with kind := k }
noncomputable def bodyU : Code := Tryz.f78.body.getD .skip
noncomputable def c3 : Code := match bodyU with | .seq _ (.seq _ (.seq _ c)) => c | _ => .skip
noncomputable def c10 : Code := match c3 with | .seq _ (.seq _ (.seq _ (.seq _ c))) => c | _ => .skip
noncomputable def LU : Code := match c3 with | .seq _ (.seq _ (.seq _ (.seq (.seq _ (.block _ (.loop c))) _))) => c | _ => .skip
def TU0 (x y : Int) (J : Nat → Value) : Array Value := #[.int .i64 x, .int .i64 y, J 2, J 3, J 4, J 5, J 6, J 7, J 8, J 9, J 10, J 11, J 12, J 13, J 14, J 15, J 16, J 17, J 18, J 19, J 20, J 21, J 22, J 23, J 24, J 25, J 26, J 27]
def TU3 (x y : Int) (bS bO bE Wg Out End : Nat) (J : Nat → Value) : Array Value := #[.int .i64 x, .int .i64 y, ptr bS, J 3, .slice none 0 0, ptr bO, ptr bE, ptr Wg, J 8, J 9, .chan (some Out), .chan (some End), J 12, J 13, J 14, J 15, J 16, J 17, J 18, J 19, J 20, J 21, J 22, J 23, J 24, J 25, J 26, J 27]
/-- Six blocks have been laid. -/
structure Begun (x : Int) (W w : World) (bS bO bE Wg Out End : Nat) : Prop where
  size : w.heap.size = W.heap.size + 6
  low : ∀ i, i < W.heap.size → w.heap[i]? = W.heap[i]?
  os : w.os = W.os
  output : w.output = W.output
  tape : w.tape = W.tape
  lay : Lay bS bO bE Out End Wg (W.heap.size + 6)
  new : W.heap.size ≤ bS ∧ W.heap.size ≤ bO ∧ W.heap.size ≤ bE ∧ W.heap.size ≤ Wg ∧ W.heap.size ≤ Out ∧ W.heap.size ≤ End ∧ bO ≠ bE
  hS : w.heap[bS]? = some (.cells #[.int .i64 x] 3 (0, 0))
  hO : w.heap[bO]? = some (.cells #[.chan (some Out)] 137 (0, 0))
  hE : w.heap[bE]? = some (.cells #[.chan (some End)] 138 (0, 0))
  hW : WgAt 148 Wg w 0 0
  hOut : w.heap[Out]? = some (.chan 0 #[] false 0 0 false)
  hEnd : w.heap[End]? = some (.chan 0 #[] false 0 0 false)
theorem ev_chan (w : World) (es : Array Event) : (Instr.makeChan 137 (.int .i64 0)).events Tryz.prog w es = es := by
  simp [Instr.makeChan, asInt, asIntOf, go_sem]
theorem ev_chan' (w : World) (es : Array Event) : (Instr.makeChan 138 (.int .i64 0)).events Tryz.prog w es = es := by
  simp [Instr.makeChan, asInt, asIntOf, go_sem]
theorem drew_at (w : World) (d : Nat) : ({ w with drawn := w.drawn + 1 } : World).at d = w.at d := rfl
theorem heap_at (w : World) (d : Nat) : (w.at d).heap = w.heap := rfl
theorem heap_al (w : World) (o : Obj) : (w.alloc o).heap = w.heap.push o := rfl
theorem heap_sc (w : World) (b f : Nat) (v : Value) : (w.setCell ⟨b, f, none⟩ v).heap = w.heap.modify b fun | .cells c e z => .cells (c.setIfInBounds f v) e z | o => o := rfl
/-- Five of them. -/
structure Five (x : Int) (W w : World) (bS bO bE Out End : Nat) : Prop where
  size : w.heap.size = W.heap.size + 5
  low : ∀ i, i < W.heap.size → w.heap[i]? = W.heap[i]?
  os : w.os = W.os
  output : w.output = W.output
  tape : w.tape = W.tape
  lt : bS < W.heap.size + 5 ∧ bO < W.heap.size + 5 ∧ bE < W.heap.size + 5 ∧ Out < W.heap.size + 5 ∧ End < W.heap.size + 5
  new : W.heap.size ≤ bS ∧ W.heap.size ≤ bO ∧ W.heap.size ≤ bE ∧ W.heap.size ≤ Out ∧ W.heap.size ≤ End
  ne : bS ≠ bO ∧ bS ≠ bE ∧ bS ≠ Out ∧ bS ≠ End ∧ bO ≠ bE ∧ bO ≠ Out ∧ bO ≠ End ∧ bE ≠ Out ∧ bE ≠ End ∧ Out ≠ End
  hS : w.heap[bS]? = some (.cells #[.int .i64 x] 3 (0, 0))
  hO : w.heap[bO]? = some (.cells #[.chan (some Out)] 137 (0, 0))
  hE : w.heap[bE]? = some (.cells #[.chan (some End)] 138 (0, 0))
  hOut : w.heap[Out]? = some (.chan 0 #[] false 0 0 false)
  hEnd : w.heap[End]? = some (.chan 0 #[] false 0 0 false)
section
variable {P : Program} {D : World → World → Array Event → Prop} {fn : FuncId} {ops : Array Oper} {Q : Exit → Act → World → Prop} {S : World → Prop} {md : Region.Mode}
theorem opC_go {i : Nat} {o : Oper} {a : Act} {w : World} {K : Act → World → Prop} (ho : ops[i]? = some o) (hw : Region.wanted o (yielded ops a.tmps) = true)
    (h : ∀ (d : Nat) (K' : Act → World → Prop), (∀ a' w', D (w.at d) w' (listed P fn a o (w.at d)) ∧ K a' w' → K' a' w') → uponK o a K' ((execOp a.eval o).run P (w.at d))) : OpC P AtRel D fn ops i K a w := by
  unfold OpC
  rw [ho]
  dsimp only
  rw [if_pos hw]
  rintro _ ⟨d, rfl⟩
  exact h d _ fun _ _ x => x
theorem anyCH_six {fuel : Nat} {listed : Array Bool} {a : Act} {w : World} (h6 : ops.size = 6) (hne : Region.ready md ops listed ≠ [])
    (h : ∀ i, i < 6 → i ∈ Region.ready md ops listed → OpC P AtRel D fn ops i (fun a' w' => S w' ∧ AnyCH P AtRel D fn md ops Q S fuel (listed.setIfInBounds i true) a' w') a w) : AnyCH P AtRel D fn md ops Q S (fuel + 1) listed a w :=
  ⟨fun e => absurd e hne, fun i hi => h i (by
    obtain ⟨_, o, ho, _⟩ := mem_ready.1 hi
    rw [← h6]
    exact (Array.getElem?_eq_some_iff.1 ho).1) hi⟩
end
section
variable {Shun : Loc → Prop} {B : Nat}
theorem termsL : Terms AtRel (DE (EvL Shun B)) := ⟨atRel_trans, fun _ _ h => by simp at h⟩
theorem drawL : LetsDraw (DE (EvL Shun B)) := fun w _ h => by simp at h
noncomputable def r1U : Code := match bodyU with | .seq _ (.seq r _) => r | _ => .skip
def TU1 (x y : Int) (bS : Nat) (J : Nat → Value) : Array Value := #[.int .i64 x, .int .i64 y, ptr bS, J 3, .slice none 0 0, J 5, J 6, J 7, J 8, J 9, J 10, J 11, J 12, J 13, J 14, J 15, J 16, J 17, J 18, J 19, J 20, J 21, J 22, J 23, J 24, J 25, J 26, J 27]
def TU2 (x y : Int) (bS bO bE Out End : Nat) (J : Nat → Value) : Array Value := #[.int .i64 x, .int .i64 y, ptr bS, J 3, .slice none 0 0, ptr bO, ptr bE, J 7, J 8, J 9, .chan (some Out), .chan (some End), J 12, J 13, J 14, J 15, J 16, J 17, J 18, J 19, J 20, J 21, J 22, J 23, J 24, J 25, J 26, J 27]
set_option maxRecDepth 100000 in
set_option maxHeartbeats 8000000 in
theorem five (x y : Int) (J : Nat → Value) (W : World) (dd : Nat) (hSh : ∀ a : Addr, W.heap.size ≤ a.block → ¬ Shun (.cell a)) (hB : W.heap.size + 6 ≤ B) :
    r1U.wpC Tryz.prog true AtRel (DE (EvL Shun B)) fU 8 (fun e a' w' => e = .normal ∧ ∃ bS bO bE Out End, a' = ⟨TU2 x y bS bO bE Out End J, []⟩ ∧ Five x W w' bS bO bE Out End) ⟨TU1 x y W.heap.size J, []⟩ ((W.alloc (.cells #[.int .i64 x] 3)).at dd) := by
  simp only [r1U, bodyU, TU1, TU2, Tryz.f78, Option.getD_some]
  co_applyP wpC_region_held (S := fun _ => True) termsL drawL (by first | kernel_rfl | rfl)
  intro w₁ hR
  obtain ⟨d1, rfl⟩ := hR
  iterate 6 (all_goals (refine anyCH_six rfl (by decide +kernel) (fun i hlt hi => ?_)
                        rcases i with _ | _ | _ | _ | _ | _ | i
                        all_goals first
                           | exact absurd hi (by decide +kernel)
                           | (exfalso; omega)
                           | (clear hi hlt
                              refine opC_go rfl rfl (fun d K hK => ?_)
                              try simp only [drew_at, at_at]
                              go_simp
                              try (unfold stored; go_simp)
                              refine hK _ _ ⟨fun e he => ?_, trivial, ?_⟩
                              · have hm := mem_listed he
                                simp [go_sem, storedEv, ev_chan, ev_chan', *] at hm
                                try (subst hm; exact evL_cell _ _ (hSh _ (by simp <;> omega)) (by simp <;> omega))
                              clear hK K
                              try walk_nrm
                              try simp only [alloc_at, setCell_at, at_at])))
  all_goals
    refine ⟨by decide +kernel, rfl, _, _, _, _, _, rfl, ?_⟩
    refine ⟨by simp only [heap_at, heap_al, heap_sc, Array.size_modify, Array.size_push], fun i hi => ?_, rfl, rfl, rfl, ⟨by omega, by omega, by omega, by omega, by omega⟩, ⟨by omega, by omega, by omega, by omega, by omega⟩, ⟨by omega, by omega, by omega, by omega, by omega, by omega, by omega, by omega, by omega, by omega⟩, ?_, ?_, ?_, ?_, ?_⟩
    · simp only [heap_at]
      repeat (first | rw [Below.heap_setCell _ _ _ _ (by simp <;> omega)] | rw [Below.heap_alloc _ _ _ (by simp; omega)] | rw [Below.heap_alloc _ _ _ hi])
    all_goals
      simp only [heap_at, heap_al, heap_sc, Array.getElem?_modify, Array.getElem?_push, Array.size_modify, Array.size_push]
      generalize W.heap.size = N
      repeat (first | rw [if_pos trivial] | rw [if_pos (by omega)] | rw [if_neg (by omega)])
      try rfl
end
end Go.Proofs.YtnikgcedifdaeaaGreatDoor.Up
end

section
/- The caller's own stretches: from upto's entry to Add's call. -/
set_option linter.unusedSectionVars false
set_option linter.unusedVariables false
set_option linter.unusedSimpArgs false
namespace Go.Proofs.YtnikgcedifdaeaaGreatDoor.Up
open Go Go.Conc Go.ConcX Go.RowKit Go.Conc.Lib Go.ConcX.Gen Go.Proofs.YtnikgcedifdaeaaGreatDoor.Lift
section
variable {Shun : Loc → Prop} {B : Nat}
set_option maxRecDepth 100000 in
set_option maxHeartbeats 8000000 in
theorem cal1 {k : CallKind} (hk : k = .normal ∨ k = .deferred) (x y : Int) (J : Nat → Value) (W : World) (cs : List Frame) (hSh : ∀ a : Addr, W.heap.size ≤ a.block → ¬ Shun (.cell a)) (hB : W.heap.size + 6 ≤ B) :
    ∃ n, Goes Tryz.prog true AtRel (DE (EvL Shun B)) (fun g w => ∃ bS bO bE Wg Out End, Begun x W w bS bO bE Wg Out End ∧ g = G ((bU k).at ⟨TU3 x y bS bO bE Wg Out End J, []⟩ [.code c3]) cs) n
      (G ((bU k).at ⟨TU0 x y J, []⟩ [.code bodyU]) cs) W := by
  have hke : (bU k).kind ≠ .early := by rcases hk with rfl | rfl <;> decide
  refine ⟨60, ?_⟩
  simp only [bodyU, TU0, Tryz.f78, Option.getD_some]
  (l_in; rw [stepG_seq]; simp only [goes_go]; refine ⟨fun e he => by simp at he, ?_⟩)
  (l_in; rw [stepG_region]; simp only [goes_go, List.size_toArray, List.length_cons, List.length_nil, Nat.reduceAdd, Nat.zero_add, List.range, List.range.loop]; refine ⟨fun e he => by simp at he, ?_⟩)
  (l_in
   refine goes_oper_k rfl rfl hke (fun K hK => ?_)
   go_simp
   refine hK _ _ ⟨fun e he => ?_, ?_⟩
   · have hm := mem_listed he
     simp [go_sem, storedEv, *] at hm
   clear hK K
   try walk_nrm)
  (l_in
   refine goes_oper_k rfl rfl hke (fun K hK => ?_)
   go_simp
   refine hK _ _ ⟨fun e he => ?_, ?_⟩
   · have hm := mem_listed he
     simp [go_sem, storedEv, *] at hm
   clear hK K
   try walk_nrm)
  (l_in; rw [stepG_region_end]; simp only [goes_go]; refine ⟨fun e he => by simp at he, ?_⟩)
  (l_in; rw [stepG_seq]; simp only [goes_go]; refine ⟨fun e he => by simp at he, ?_⟩)
  refine (wpC_goes (m := 20) (b := bU k) (five (Shun := Shun) (B := B) x y J W _ hSh hB) rfl hke ?_).mono (by omega)
  rintro e a' w' ⟨rfl, bS, bO, bE, Out, End, rfl, h5⟩
  show Goes _ _ _ _ _ _ _ _
  simp only [TU2]
  (l_in; rw [stepG_seq]; simp only [goes_go]; refine ⟨fun e he => by simp at he, ?_⟩)
  (l_in; rw [stepG_region]; simp only [goes_go, List.size_toArray, List.length_cons, List.length_nil, Nat.reduceAdd, Nat.zero_add, List.range, List.range.loop]; refine ⟨fun e he => by simp at he, ?_⟩)
  (l_in
   refine goes_oper_k rfl rfl hke (fun K hK => ?_)
   go_simp
   refine hK _ _ ⟨fun e he => ?_, ?_⟩
   · have hm := mem_listed he
     simp [go_sem, storedEv, *] at hm
   clear hK K
   try walk_nrm)
  (l_in; rw [stepG_region_end]; simp only [goes_go]; refine ⟨fun e he => by simp at he, ?_⟩)
  refine Goes.stop (fun w₂ h₂ => ?_)
  obtain ⟨d2, rfl⟩ := h₂
  obtain ⟨l1, l2, l3, l4, l5⟩ := h5.lt
  obtain ⟨n1, n2, n3, n4, n5⟩ := h5.new
  obtain ⟨e1, e2, e3, e4, e5, e6, e7, e8, e9, e10⟩ := h5.ne
  have hsz := h5.size
  have old : ∀ i, i < w'.heap.size → (w'.alloc (.cells #[.int .u64 0, .int .u32 0] 148)).heap[i]? = w'.heap[i]? := fun i hi => Below.heap_alloc _ _ _ hi
  refine ⟨bS, bO, bE, w'.heap.size, Out, End, ⟨?_, fun i hi => (old i (by omega)).trans (h5.low i hi), h5.os, h5.output, h5.tape, ?_, ⟨n1, n2, n3, by omega, n4, n5, e5⟩, (old _ (by omega)).trans h5.hS, (old _ (by omega)).trans h5.hO, (old _ (by omega)).trans h5.hE, ?_, (old _ (by omega)).trans h5.hOut, (old _ (by omega)).trans h5.hEnd⟩, rfl⟩
  · show (w'.heap.push _).size = _
    simp [hsz]
  · constructor <;> (first | omega | exact ⟨by omega, by omega, by omega, by omega⟩ | exact ⟨by omega, by omega, by omega, by omega, by omega⟩ | exact ⟨by omega, by omega, by omega⟩)
  · show (w'.heap.push _)[w'.heap.size]? = _
    simp [wgBlock]
end
end Go.Proofs.YtnikgcedifdaeaaGreatDoor.Up
end

section
/- The caller's own stretches: through Add to the go statement. -/
set_option linter.unusedSectionVars false
set_option linter.unusedVariables false
set_option linter.unusedSimpArgs false
namespace Go.Proofs.YtnikgcedifdaeaaGreatDoor.Up
open Go Go.Conc Go.ConcX Go.RowKit Go.Conc.Lib Go.ConcX.Gen Go.Proofs.YtnikgcedifdaeaaGreatDoor.Lift
noncomputable def ops4 : Array Oper := match c3 with | .seq _ (.seq (.region _ ops _) _) => ops | _ => #[]
noncomputable def c5 : Code := match c3 with | .seq _ (.seq _ c) => c | _ => .skip
/-- The temporaries behind the go statement. -/
def TU5 (x y : Int) (bS bO bE Wg Out End : Nat) (J : Nat → Value) : Array Value := #[.int .i64 x, .int .i64 y, ptr bS, J 3, .slice none 0 0, ptr bO, ptr bE, ptr Wg, J 8, J 9, .chan (some Out), .chan (some End), .tuple #[], .func (.func fK) #[] #[ptr Wg, ptr bS, ptr bO, ptr bE], J 14, J 15, J 16, J 17, J 18, J 19, J 20, J 21, J 22, J 23, J 24, J 25, J 26, J 27]
noncomputable def gGo (k : CallKind) (x y : Int) (bS bO bE Wg Out End : Nat) (J : Nat → Value) (cs : List Frame) : Goroutine := G ((bU k).at ⟨TU5 x y bS bO bE Wg Out End J, []⟩ (.inRegion ops4 [] :: [.code c5])) cs
/-- The go statement. -/
def AtGoU (k : CallKind) (x y : Int) (bS bO bE Wg Out End : Nat) (J : Nat → Value) (cs : List Frame) (W : World) (a : Goroutine) (w : World) : Prop :=
  a.status = .running ∧ ∃ d, w = (W.setCell (stA Wg) (.int .u64 KK)).at d ∧ stepG Tryz.prog true a w = .spawn (gGo k x y bS bO bE Wg Out End J cs) (born Tryz.prog (callK bS bO bE Wg)) w #[]
section
variable {Wg bS : Nat} [Shy Wg bS]
set_option maxRecDepth 100000 in
set_option maxHeartbeats 8000000 in
theorem cal2 {k : CallKind} (hk : k = .normal ∨ k = .deferred) (x y : Int) (bO bE Out End : Nat) (J : Nat → Value) (cs : List Frame) (W : World) (hW : WgAt 148 Wg W 0 0) :
    ∃ n, Goes Tryz.prog true AtRel (DE (EvS Wg bS)) (AtMkS Tryz.prog .disable fun a w => ∃ n, Goes Tryz.prog true AtRel (DE (EvS Wg bS)) (AtMkS Tryz.prog .enable fun a w => ∃ n, Goes Tryz.prog true AtRel (DE (EvS Wg bS)) (AtGoU k x y bS bO bE Wg Out End J cs W) n a w) n a w) n
      (G ((bU k).at ⟨TU3 x y bS bO bE Wg Out End J, []⟩ [.code c3]) cs) W := by
  have hke : (bU k).kind ≠ .early := by rcases hk with rfl | rfl <;> decide
  refine ⟨12 + 3, ?_⟩
  have hA := @addPos link Wg bS
  simp only [c3, bodyU, TU3, body_add, Tryz.f78, addFn, Option.getD_some, ptr] at hA ⊢
  (l_in; rw [stepG_seq]; simp only [goes_go]; refine ⟨fun e he => by simp at he, ?_⟩)
  (l_in; rw [stepG_region]; simp only [goes_go, List.size_toArray, List.length_cons, List.length_nil, Nat.reduceAdd, Nat.zero_add, List.range, List.range.loop]; refine ⟨fun e he => by simp at he, ?_⟩)
  l_in
  refine goes_call rfl rfl hke rfl Tryz.func128 (nm_add link) rfl ⟨fun e he => by simp at he, ?_⟩
  walk_nrmf Tryz.f128
  refine hA (mT := 8) wgLib _ (show WgAt 148 Wg (World.at W _) 0 0 from hW) ?_
  clear hA
  walk_nrm
  (l_in; rw [stepG_region_end]; simp only [goes_go]; refine ⟨fun e he => by simp at he, ?_⟩)
  (l_in; rw [stepG_seq]; simp only [goes_go]; refine ⟨fun e he => by simp at he, ?_⟩)
  (l_in; rw [stepG_region]; simp only [goes_go, List.size_toArray, List.length_cons, List.length_nil, Nat.reduceAdd, Nat.zero_add, List.range, List.range.loop]; refine ⟨fun e he => by simp at he, ?_⟩)
  l_in
  refine goes_oper_k rfl rfl hke (fun K hK => ?_)
  go_simp
  refine hK _ _ ⟨fun e he => ?_, ?_⟩
  · have hm := mem_listed he
    simp [go_sem, Instr.makeFunc] at hm
  clear hK K
  walk_nrm
  refine Goes.stop (fun w₁ h₁ => ?_)
  obtain ⟨d, hd⟩ := h₁
  subst hd
  simp only [alloc_at, setCell_at, at_at]
  refine ⟨rfl, d, rfl, ?_⟩
  rw [stepG_spawn (d := callK bS bO bE Wg) (w' := (W.setCell (stA Wg) (.int .u64 KK)).at d) (f := .func fK) (c := #[ptr Wg, ptr bS, ptr bO, ptr bE]) rfl rfl hke (by simp [go_sem, callK, Deferred.ofValue, ptr]) rfl]
  rw [Go.Conc.listed_nil (by simp [go_sem, Deferred.ofValue])]
  rfl
end
end Go.Proofs.YtnikgcedifdaeaaGreatDoor.Up
end

section
/- The caller's own stretches: behind the go statement to its first receive; from a receive to the loop's head. -/
set_option linter.unusedSectionVars false
set_option linter.unusedVariables false
set_option linter.unusedSimpArgs false
namespace Go.Proofs.YtnikgcedifdaeaaGreatDoor.Up
open Go Go.Conc Go.ConcX Go.RowKit Go.Conc.Lib Go.ConcX.Gen Go.Proofs.YtnikgcedifdaeaaGreatDoor.Lift
noncomputable def ops6 : Array Oper := match c5 with | .seq _ (.seq (.seq (.region _ ops _) _) _) => ops | _ => #[]
noncomputable def ops8 : Array Oper := match LU with | .seq _ (.seq _ (.region _ ops _)) => ops | _ => #[]
/-- The temporaries at the loop's head. -/
def TH (x y : Int) (bS bO bE Wg Out End : Nat) (sl : Value) (n : Int) (J : Nat → Value) : Array Value :=
  #[.int .i64 x, .int .i64 y, ptr bS, J 3, .slice none 0 0, ptr bO, ptr bE, ptr Wg, sl, .int .i64 n, .chan (some Out), .chan (some End), .tuple #[], .func (.func fK) #[] #[ptr Wg, ptr bS, ptr bO, ptr bE], J 14, J 15, J 16, J 17, J 18, J 19, J 20, J 21, J 22, J 23, J 24, J 25, J 26, J 27]
noncomputable def gHead (k : CallKind) (x y : Int) (bS bO bE Wg Out End : Nat) (cs : List Frame) (sl : Value) (n : Int) (J : Nat → Value) : Goroutine :=
  G ((bU k).at ⟨TH x y bS bO bE Wg Out End sl n J, []⟩ [.code LU, .inLoop LU, .inBlock 0, .code c10]) cs
section
variable {Wg bS Low End : Nat} [Shy Wg bS]
variable (Low) in
/-- The caller at a receive. -/
def RecvOk (k : CallKind) (x y : Int) (bS bO bE Wg Out End : Nat) [Shy Wg bS] (cs : List Frame) (sl : Value) (g : Goroutine) : Prop :=
  g.status = .running ∧ (∀ w, stepG Tryz.prog true g w = .comm g #[rcase Out (.int .i64 0)] true (.recv false) w #[]) ∧
    ∀ (n : Int) (w : World), ∃ m, Goes Tryz.prog true AtRel (DPi (Mine Low End) Wg bS Low) (fun g' w' => (∃ J, g' = gHead k x y bS bO bE Wg Out End cs sl n J) ∧ AtRel w w') m (g.finishComm Tryz.prog #[rcase Out (.int .i64 0)] (.recv false) 0 (.int .i64 n) true) w
theorem ev0_read (a : Addr) (hw : a.block ≠ Wg) (h' : a.block ≠ bS) (hk : Shy.ok Wg bS (.access ⟨.cell a, false, false⟩)) : EvQ (Mine Low End) Wg bS 0 ⟨.cell a, false, false⟩ := by
  refine ⟨fun fn pos => ⟨rfl, fun y hy => ?_, by rw [ofEvent_cell]; simp, by rw [ofEvent_cell]; exact hk⟩, by simp, by simp, by simp⟩
  simp only [ofEvent_cell, MemAct.touch?, Option.some.injEq] at hy
  subst hy
  refine ⟨.inr (.inl ⟨rfl, fun e => by cases e⟩), fun hs => ?_, fun ⟨y, hy, hyb, _⟩ => ?_⟩
  · rcases hs with ⟨y, hy, hyb⟩ | hs
    · cases hy; exact absurd hyb hw
    · cases hs
  · cases hy; exact absurd hyb h'
end
theorem cell_at (w : World) (d : Nat) (a : Addr) : (w.at d).cell? a = w.cell? a := rfl
section
variable {Wg bS Low : Nat} [Shy Wg bS]
set_option maxRecDepth 100000 in
set_option maxHeartbeats 8000000 in
theorem recv1 {k : CallKind} (hk : k = .normal ∨ k = .deferred) (x y : Int) (bO bE Out End : Nat) (cs : List Frame) (J : Nat → Value) :
    RecvOk Low k x y bS bO bE Wg Out End cs (.slice none 0 0) (G ((bU k).at ⟨#[.int .i64 x, .int .i64 y, ptr bS, J 3, .slice none 0 0, ptr bO, ptr bE, ptr Wg, .slice none 0 0, J 9, .chan (some Out), .chan (some End), .tuple #[], .func (.func fK) #[] #[ptr Wg, ptr bS, ptr bO, ptr bE], .chan (some Out), J 15, J 16, J 17, J 18, J 19, J 20, J 21, J 22, J 23, J 24, J 25, J 26, J 27], []⟩ [.inRegion ops6 [1, 2], .code (.block 0 (.loop LU)), .code c10]) cs) := by
  have hke : (bU k).kind ≠ .early := by rcases hk with rfl | rfl <;> decide
  refine ⟨rfl, fun w => ?_, fun n w => ?_⟩
  · rw [stepG_comm (w' := w) (cases := #[rcase Out (.int .i64 0)]) (blocking := true) (shape := .recv false) (o := ops6.getD 1 default) rfl rfl hke (by
      simp only [ops6, c5, c3, bodyU, Tryz.f78, Option.getD_some]
      go_simp
      rfl)]
    rw [Go.Conc.listed_nil (by
      simp only [ops6, c5, c3, bodyU, Tryz.f78, Option.getD_some]
      simp [go_sem])]
  · unfold Goroutine.finishComm
    simp only [G, Frame.finish_at, commResult]
    refine ⟨20, ?_⟩
    show Goes _ _ _ _ _ _ (G _ _) _
    simp only [ops6, c5, c3, bodyU, Tryz.f78, Option.getD_some, ptr]
    walk_nrm
    (l_in
     refine goes_oper_k rfl rfl hke (fun K hK => ?_)
     go_simp
     refine hK _ _ ⟨⟨fun _ _ => rfl, fun e he => ?_⟩, ?_⟩
     · have hm := mem_listed he
       simp [go_sem, storedEv, *] at hm
     clear hK K
     try walk_nrm)
    (l_in; rw [stepG_region_end]; simp only [goes_go]; refine ⟨⟨fun _ _ => rfl, fun e he => by simp at he⟩, ?_⟩)
    (l_in; rw [stepG_block]; simp only [goes_go]; refine ⟨⟨fun _ _ => rfl, fun e he => by simp at he⟩, ?_⟩)
    (l_in; rw [stepG_loop]; simp only [goes_go]; refine ⟨⟨fun _ _ => rfl, fun e he => by simp at he⟩, ?_⟩)
    refine Goes.stop (fun w₂ h₂ => ⟨⟨fun i => match i with | 14 => .chan (some Out) | 15 => .int .i64 n | i => J i, ?_⟩, ?_⟩)
    · rfl
    · exact atRel_trans _ _ _ ⟨_, rfl⟩ h₂
set_option maxRecDepth 100000 in
set_option maxHeartbeats 8000000 in
theorem recv2 {k : CallKind} (hk : k = .normal ∨ k = .deferred) (x y : Int) (bO bE Out End : Nat) (cs : List Frame) (sl : Value) (m : Int) (J : Nat → Value) (hJ : J 19 = .chan (some Out)) :
    RecvOk Low k x y bS bO bE Wg Out End cs sl (G ((bU k).at ⟨TH x y bS bO bE Wg Out End sl m J, []⟩ [.inRegion ops8 [1, 2], .inLoop LU, .inBlock 0, .code c10]) cs) := by
  have hke : (bU k).kind ≠ .early := by rcases hk with rfl | rfl <;> decide
  refine ⟨rfl, fun w => ?_, fun n w => ?_⟩
  · rw [stepG_comm (w' := w) (cases := #[rcase Out (.int .i64 0)]) (blocking := true) (shape := .recv false) (o := ops8.getD 1 default) rfl rfl hke (by
      simp only [ops8, LU, c3, bodyU, Tryz.f78, Option.getD_some, TH]
      go_simp
      rfl)]
    rw [Go.Conc.listed_nil (by
      simp only [ops8, LU, c3, bodyU, Tryz.f78, Option.getD_some, TH]
      simp [go_sem])]
  · unfold Goroutine.finishComm
    simp only [G, Frame.finish_at, commResult]
    refine ⟨20, ?_⟩
    show Goes _ _ _ _ _ _ (G _ _) _
    simp only [ops8, LU, c3, bodyU, Tryz.f78, Option.getD_some, ptr, TH]
    walk_nrm
    (l_in
     refine goes_oper_k rfl rfl hke (fun K hK => ?_)
     go_simp
     refine hK _ _ ⟨⟨fun _ _ => rfl, fun e he => ?_⟩, ?_⟩
     · have hm := mem_listed he
       simp [go_sem, storedEv, *] at hm
     clear hK K
     try walk_nrm)
    (l_in; rw [stepG_region_end]; simp only [goes_go]; refine ⟨⟨fun _ _ => rfl, fun e he => by simp at he⟩, ?_⟩)
    (l_in; rw [stepG_inLoop]; simp only [goes_go]; refine ⟨⟨fun _ _ => rfl, fun e he => by simp at he⟩, ?_⟩)
    refine Goes.stop (fun w₂ h₂ => ⟨⟨fun i => match i with | 19 => .chan (some Out) | 20 => .int .i64 n | i => J i, ?_⟩, ?_⟩)
    · rfl
    · exact atRel_trans _ _ _ ⟨_, rfl⟩ h₂
set_option maxRecDepth 100000 in
set_option maxHeartbeats 8000000 in
/-- From the go statement to the first receive. -/
theorem cal3 {k : CallKind} (hk : k = .normal ∨ k = .deferred) (x y : Int) {bO bE Out End : Nat} (hL : Lay bS bO bE Out End Wg Low) (hko : Shy.ok Wg bS (.access ⟨.cell ⟨bO, 0, none⟩, false, false⟩)) (cs : List Frame) (W : World) (hO : W.cell? ⟨bO, 0, none⟩ = some (.chan (some Out))) (J : Nat → Value) :
    ∃ n, Goes Tryz.prog true AtRel (DPi (Mine Low End) Wg bS Low) (fun g w => RecvOk Low k x y bS bO bE Wg Out End cs (.slice none 0 0) g ∧ AtRel W w) n (gGo k x y bS bO bE Wg Out End J cs) W := by
  have hke : (bU k).kind ≠ .early := by rcases hk with rfl | rfl <;> decide
  have hO' : ∀ d, (W.at d).cell? ⟨bO, 0, none⟩ = some (.chan (some Out)) := fun d => hO
  refine ⟨20, ?_⟩
  simp only [gGo, TU5, ops4, c5, c3, bodyU, Tryz.f78, Option.getD_some, ptr]
  (l_in; rw [stepG_region_end]; simp only [goes_go]; refine ⟨⟨fun _ _ => rfl, fun e he => by simp at he⟩, ?_⟩)
  (l_in; rw [stepG_seq]; simp only [goes_go]; refine ⟨⟨fun _ _ => rfl, fun e he => by simp at he⟩, ?_⟩)
  (l_in; rw [stepG_region]; simp only [goes_go, List.size_toArray, List.length_cons, List.length_nil, Nat.reduceAdd, Nat.zero_add, List.range, List.range.loop]; refine ⟨⟨fun _ _ => rfl, fun e he => by simp at he⟩, ?_⟩)
  (l_in
   refine goes_oper_k rfl rfl hke (fun K hK => ?_)
   go_simp
   refine hK _ _ ⟨⟨fun _ _ => rfl, fun e he => ?_⟩, ?_⟩
   · have hm := mem_listed he
     simp [go_sem, storedEv, *] at hm
   clear hK K
   try walk_nrm)
  (l_in; rw [stepG_region_end]; simp only [goes_go]; refine ⟨⟨fun _ _ => rfl, fun e he => by simp at he⟩, ?_⟩)
  (l_in; rw [stepG_seq]; simp only [goes_go]; refine ⟨⟨fun _ _ => rfl, fun e he => by simp at he⟩, ?_⟩)
  (l_in; rw [stepG_seq]; simp only [goes_go]; refine ⟨⟨fun _ _ => rfl, fun e he => by simp at he⟩, ?_⟩)
  (l_in; rw [stepG_region]; simp only [goes_go, List.size_toArray, List.length_cons, List.length_nil, Nat.reduceAdd, Nat.zero_add, List.range, List.range.loop]; refine ⟨⟨fun _ _ => rfl, fun e he => by simp at he⟩, ?_⟩)
  (l_in
   refine goes_oper_k rfl rfl hke (fun K hK => ?_)
   go_simp
   refine hK _ _ ⟨⟨fun _ _ => rfl, fun e he => ?_⟩, ?_⟩
   · have hm := mem_listed he
     simp [go_sem, storedEv, *] at hm
     try (subst hm; exact (ev0_read _ hL.o.2.2.2.1 hL.o.2.2.2.2 hko))
   clear hK K
   try walk_nrm)
  refine Goes.stop (fun w₂ h₂ => ⟨?_, ?_⟩)
  · exact recv1 hk x y bO bE Out End cs J
  · obtain ⟨d, rfl⟩ := h₂
    exact ⟨_, rfl⟩
/-- At the closing. -/
noncomputable def ops10 : Array Oper := match c10 with | .seq (.region _ ops _) _ => ops | _ => #[]
noncomputable def c11 : Code := match c10 with | .seq _ c => c | _ => .skip
noncomputable def gClose (k : CallKind) (x y : Int) (bS bO bE Wg Out End : Nat) (cs : List Frame) (sl : Value) (n : Int) (J : Nat → Value) : Goroutine :=
  G ((bU k).at ⟨TH x y bS bO bE Wg Out End sl n J, []⟩ [.inRegion ops10 [1], .code c11]) cs
set_option maxRecDepth 100000 in
set_option maxHeartbeats 8000000 in
/-- From the loop's head out of the loop. -/
theorem calOut {k : CallKind} (hk : k = .normal ∨ k = .deferred) (x y : Int) {bO bE Out End : Nat} (hL : Lay bS bO bE Out End Wg Low) (hke' : Shy.ok Wg bS (.access ⟨.cell ⟨bE, 0, none⟩, false, false⟩)) (cs : List Frame) (W : World) (hE : W.cell? ⟨bE, 0, none⟩ = some (.chan (some End)))
    (sl : Value) (n : Int) (J : Nat → Value) (hn : ¬ n ≤ y) :
    ∃ m, Goes Tryz.prog true AtRel (DPi (Mine Low End) Wg bS Low) (fun g w => (∃ J, J 25 = .chan (some End) ∧ g = gClose k x y bS bO bE Wg Out End cs sl n J) ∧ AtRel W w) m (gHead k x y bS bO bE Wg Out End cs sl n J) W := by
  have hke : (bU k).kind ≠ .early := by rcases hk with rfl | rfl <;> decide
  have hE' : ∀ d, (W.at d).cell? ⟨bE, 0, none⟩ = some (.chan (some End)) := fun d => hE
  refine ⟨30, ?_⟩
  simp only [gHead, TH, LU, c10, c3, bodyU, Tryz.f78, Option.getD_some, ptr]
  (l_in; rw [stepG_seq]; simp only [goes_go]; refine ⟨⟨fun _ _ => rfl, fun e he => by simp at he⟩, ?_⟩)
  (l_in; rw [stepG_seq]; simp only [goes_go]; refine ⟨⟨fun _ _ => rfl, fun e he => by simp at he⟩, ?_⟩)
  (l_in; rw [stepG_region]; simp only [goes_go, List.size_toArray, List.length_cons, List.length_nil, Nat.reduceAdd, Nat.zero_add, List.range, List.range.loop]; refine ⟨⟨fun _ _ => rfl, fun e he => by simp at he⟩, ?_⟩)
  (l_in
   refine goes_oper_k rfl rfl hke (fun K hK => ?_)
   go_simp
   refine hK _ _ ⟨⟨fun _ _ => rfl, fun e he => ?_⟩, ?_⟩
   · have hm := mem_listed he
     simp [go_sem, storedEv, *] at hm
   clear hK K
   try walk_nrm)
  (l_in
   refine goes_oper_k rfl rfl hke (fun K hK => ?_)
   go_simp
   refine hK _ _ ⟨⟨fun _ _ => rfl, fun e he => ?_⟩, ?_⟩
   · have hm := mem_listed he
     simp [go_sem, storedEv, *] at hm
   clear hK K
   try walk_nrm)
  (l_in
   refine goes_oper_k rfl rfl hke (fun K hK => ?_)
   go_simp
   refine hK _ _ ⟨⟨fun _ _ => rfl, fun e he => ?_⟩, ?_⟩
   · have hm := mem_listed he
     simp [go_sem, storedEv, *] at hm
   clear hK K
   try walk_nrm)
  (l_in; rw [stepG_region_end]; simp only [goes_go]; refine ⟨⟨fun _ _ => rfl, fun e he => by simp at he⟩, ?_⟩)
  l_in
  rw [stepG_cond (t := false) (by simp [Act.eval, hn])]
  simp only [goes_go, Bool.false_eq_true, ↓reduceIte]
  refine ⟨⟨fun _ _ => rfl, fun e he => by simp at he⟩, ?_⟩
  l_in
  refine goes_exit rfl ?_
  refine ⟨⟨fun _ _ => rfl, fun e he => by simp at he⟩, ?_⟩
  (l_in; rw [stepG_seq]; simp only [goes_go]; refine ⟨⟨fun _ _ => rfl, fun e he => by simp at he⟩, ?_⟩)
  (l_in; rw [stepG_region]; simp only [goes_go, List.size_toArray, List.length_cons, List.length_nil, Nat.reduceAdd, Nat.zero_add, List.range, List.range.loop]; refine ⟨⟨fun _ _ => rfl, fun e he => by simp at he⟩, ?_⟩)
  (l_in
   refine goes_oper_k rfl rfl hke (fun K hK => ?_)
   go_simp
   refine hK _ _ ⟨⟨fun _ _ => rfl, fun e he => ?_⟩, ?_⟩
   · have hm := mem_listed he
     simp [go_sem, storedEv, *] at hm
     try (subst hm; exact (ev0_read _ hL.e.2.2.2.1 hL.e.2.2.2.2 hke'))
   clear hK K
   try walk_nrm)
  refine Goes.stop (fun w₂ h₂ => ⟨⟨fun i => match i with | 16 => .int .i64 n | 17 => .int .i64 y | 18 => .bool false | 25 => .chan (some End) | i => J i, rfl, ?_⟩, ?_⟩)
  · rfl
  · obtain ⟨d, rfl⟩ := h₂
    exact ⟨_, rfl⟩
end
end Go.Proofs.YtnikgcedifdaeaaGreatDoor.Up
end

section
/- The caller's round: from the loop's head, through append, to the next receive. -/
set_option linter.unusedSectionVars false
set_option linter.unusedVariables false
set_option linter.unusedSimpArgs false
namespace Go.Proofs.YtnikgcedifdaeaaGreatDoor.Up
open Go Go.Conc Go.ConcX Go.RowKit Go.Conc.Lib Go.ConcX.Gen Go.Proofs.YtnikgcedifdaeaaGreatDoor.Lift
theorem info3 : ∃ i z, Tryz.prog.info? 3 = some i ∧ i.zero = some z ∧ i.size = 1 ∧ i.bytes = 8 ∧ z.cells.size = 1 := by
  have h : (Tryz.prog.info? 3).map (fun i => (i.zero, i.size, i.bytes)) = some (some (.int .i64 0), 1, 8) := by kernel_rfl
  cases hi : Tryz.prog.info? 3 with
  | none => rw [hi] at h; cases h
  | some i =>
    rw [hi] at h
    simp only [Option.map_some, Option.some.injEq, Prod.mk.injEq] at h
    exact ⟨i, _, rfl, h.1, h.2.1, h.2.2, rfl⟩
/-- append of one number. -/
noncomputable def app1 (sl : Value) (M : Nat) : Sem Value := Builtin.append_ #[38, 38] 38 #[sl, .slice (some ⟨M, 0, none⟩) 1 1]
section
variable {Wg bS Low : Nat} [Shy Wg bS]
theorem ev0_own {End : Nat} (hL : Wg < Low) (hS : bS < Low) {N : Nat} (hown : ∀ (a : Addr) (wr sy : Bool), Low ≤ a.block → a.block ≤ N → Shy.ok Wg bS (.access ⟨.cell a, wr, sy⟩)) {a : Addr} {ev : Event} (hl : ev.loc = .cell a) (ha : Low ≤ a.block) (hn : a.block ≤ N) : EvQ (Mine Low End) Wg bS 0 ev := by
  obtain ⟨loc, wr, sy⟩ := ev
  simp only at hl
  subst hl
  refine ⟨fun fn pos => ⟨rfl, fun y hy => ?_, by rw [ofEvent_cell]; simp, by rw [ofEvent_cell]; exact hown a wr sy ha hn⟩, by simp, by simp, by simp⟩
  simp only [ofEvent_cell, MemAct.touch?, Option.some.injEq] at hy
  subst hy
  refine ⟨.inr (.inl ⟨rfl, fun e => .inl ⟨a, rfl, ha⟩⟩), fun hs => ?_, fun ⟨y, hy, hyb, _⟩ => ?_⟩
  · rcases hs with ⟨y, hy, hyb⟩ | hs
    · cases hy; omega
    · cases hs
  · cases hy; omega
theorem ev0_noRoom {End : Nat} (hm : Shy.ok Wg bS (.mark .noRoom)) {m : Mark} (h : Neutral m) : EvQ (Mine Low End) Wg bS 0 ⟨.mark m, false, true⟩ := by
  obtain rfl : m = .noRoom := h
  exact ⟨fun fn pos => okOp_still rfl (by simp [MemAct.ofEvent]) hm, by simp, by simp, by simp⟩
set_option maxRecDepth 100000 in
set_option maxHeartbeats 8000000 in
theorem calRound {k : CallKind} (hk : k = .normal ∨ k = .deferred) (x y : Int) {bO bE Out End : Nat} (hL : Lay bS bO bE Out End Wg Low) (hko : Shy.ok Wg bS (.access ⟨.cell ⟨bO, 0, none⟩, false, false⟩))
    (cs : List Frame) (W : World) (hown : ∀ (a : Addr) (wr sy : Bool), Low ≤ a.block → a.block ≤ W.heap.size → Shy.ok Wg bS (.access ⟨.cell a, wr, sy⟩)) (hnr : Shy.ok Wg bS (.mark .noRoom)) (hO : W.cell? ⟨bO, 0, none⟩ = some (.chan (some Out))) (hLow : Low ≤ W.heap.size)
    (sl : Value) (cnt : Nat) (xs : List Value) (hsl : W.ownsRow Low 3 1 sl cnt xs) (hcnt : cnt < 1000000000) (n : Int) (J : Nat → Value) (hn : n ≤ y) :
    ∃ m, Goes Tryz.prog true AtRel (DPi (Mine Low End) Wg bS Low) (fun g w => ∃ d sl' w', (app1 sl W.heap.size).run Tryz.prog ((W.alloc (.cells #[.int .i64 n] 3)).at d) = .ok sl' w' ∧ AtRel w' w ∧ w'.ownsRow Low 3 1 sl' (cnt + 1) (xs ++ [.int .i64 n]) ∧
      ((W.alloc (.cells #[.int .i64 n] 3)).at d).grownBy w' sl.ownBlock ∧ RecvOk Low k x y bS bO bE Wg Out End cs sl' g) m (gHead k x y bS bO bE Wg Out End cs sl n J) W := by
  have hke : (bU k).kind ≠ .early := by rcases hk with rfl | rfl <;> decide
  have hO' : ∀ d, (W.at d).cell? ⟨bO, 0, none⟩ = some (.chan (some Out)) := fun d => hO
  obtain ⟨i, z, hi, hz, hsize, hby, hzs⟩ := info3
  refine ⟨40, ?_⟩
  simp only [gHead, TH, LU, c3, bodyU, Tryz.f78, Option.getD_some, ptr]
  (l_in; rw [stepG_seq]; simp only [goes_go]; refine ⟨⟨fun _ _ => rfl, fun e he => by simp at he⟩, ?_⟩)
  (l_in; rw [stepG_seq]; simp only [goes_go]; refine ⟨⟨fun _ _ => rfl, fun e he => by simp at he⟩, ?_⟩)
  (l_in; rw [stepG_region]; simp only [goes_go, List.size_toArray, List.length_cons, List.length_nil, Nat.reduceAdd, Nat.zero_add, List.range, List.range.loop]; refine ⟨⟨fun _ _ => rfl, fun e he => by simp at he⟩, ?_⟩)
  (l_in
   refine goes_oper_k rfl rfl hke (fun K hK => ?_)
   go_simp
   refine hK _ _ ⟨⟨fun _ _ => rfl, fun e he => ?_⟩, ?_⟩
   · have hm := mem_listed he
     simp [go_sem, storedEv, *] at hm
   clear hK K
   try walk_nrm)
  (l_in
   refine goes_oper_k rfl rfl hke (fun K hK => ?_)
   go_simp
   refine hK _ _ ⟨⟨fun _ _ => rfl, fun e he => ?_⟩, ?_⟩
   · have hm := mem_listed he
     simp [go_sem, storedEv, *] at hm
   clear hK K
   try walk_nrm)
  (l_in
   refine goes_oper_k rfl rfl hke (fun K hK => ?_)
   go_simp
   refine hK _ _ ⟨⟨fun _ _ => rfl, fun e he => ?_⟩, ?_⟩
   · have hm := mem_listed he
     simp [go_sem, storedEv, *] at hm
   clear hK K
   try walk_nrm)
  (l_in; rw [stepG_region_end]; simp only [goes_go]; refine ⟨⟨fun _ _ => rfl, fun e he => by simp at he⟩, ?_⟩)
  l_in
  rw [stepG_cond (t := true) (by simp [Act.eval, hn])]
  simp only [goes_go, ↓reduceIte]
  refine ⟨⟨fun _ _ => rfl, fun e he => by simp at he⟩, ?_⟩
  (l_in; rw [stepG_skip]; simp only [goes_go]; refine ⟨⟨fun _ _ => rfl, fun e he => by simp at he⟩, ?_⟩)
  (l_in; rw [stepG_seq]; simp only [goes_go]; refine ⟨⟨fun _ _ => rfl, fun e he => by simp at he⟩, ?_⟩)
  (l_in; rw [stepG_block]; simp only [goes_go]; refine ⟨⟨fun _ _ => rfl, fun e he => by simp at he⟩, ?_⟩)
  (l_in; rw [stepG_region]; simp only [goes_go, List.size_toArray, List.length_cons, List.length_nil, Nat.reduceAdd, Nat.zero_add, List.range, List.range.loop]; refine ⟨⟨fun _ _ => rfl, fun e he => by simp at he⟩, ?_⟩)
  (l_in
   refine goes_oper_k rfl rfl hke (fun K hK => ?_)
   go_simp
   refine hK _ _ ⟨⟨fun _ _ => rfl, fun e he => ?_⟩, ?_⟩
   · have hm := mem_listed he
     simp [go_sem, storedEv, *] at hm
   clear hK K
   try walk_nrm)
  (l_in
   refine goes_oper_k rfl rfl hke (fun K hK => ?_)
   go_simp
   refine hK _ _ ⟨⟨fun _ _ => rfl, fun e he => ?_⟩, ?_⟩
   · have hm := mem_listed he
     simp [go_sem, storedEv, *] at hm
   clear hK K
   try walk_nrm)
  -- the row of one number
  l_in
  refine goes_oper_k rfl rfl hke (fun K hK => ?_)
  go_simp
  refine hK _ _ ⟨⟨fun j hj => Below.heap_alloc _ _ _ (show j < W.heap.size by omega), fun e he => ?_⟩, ?_⟩
  · have hm := mem_listed he
    simp [go_sem, storedEv, *] at hm
  clear hK K
  try walk_nrm
  try simp only [alloc_at, at_at]
  -- append
  refine Goes.step rfl (fun w₁ h₁ => ?_)
  obtain ⟨d, rfl⟩ := h₁
  try simp only [at_at]
  have hM : Low ≤ W.heap.size := hLow
  have hown1 : ((W.alloc (.cells #[.int .i64 n] 3)).at d).ownsRow Low 3 1 sl cnt xs := by
    refine ⟨hsl.1, hsl.2.imp id ?_⟩
    rintro ⟨g, cap, cur, e1, e2, e3, e4⟩
    exact ⟨g, cap, cur, e1, e2, (Below.heap_alloc _ _ _ (Array.getElem?_eq_some_iff.1 e3).1).trans e3, e4⟩
  have hnew : ∀ (j : Nat) (u : Value), ([.int .i64 n] : List Value)[j]? = some u → ((W.alloc (.cells #[.int .i64 n] 3)).at d).cell? ((⟨W.heap.size, 0, none⟩ : Addr).add j) = some u := by
    intro j u hj
    obtain rfl : j = 0 := by
      have := (List.getElem?_eq_some_iff.1 hj).1
      simpa using this
    have : u = .int .i64 n := by simpa using hj.symm
    subst this
    show (W.alloc (.cells #[.int .i64 n] 3)).cell? ⟨W.heap.size, 0, none⟩ = _
    rw [World.cell?_alloc_new]
    rfl
  have hml : maxLen = 9223372036854775807 ∨ 2000000000 ≤ maxLen := .inr (by simp [maxLen])
  have hl63 : cnt + 1 ≤ maxLen := by
    have : 2000000000 ≤ maxLen := by decide
    omega
  obtain ⟨v', w', hr, hrow, hgrow, _⟩ := run_append_own (P := Tryz.prog) (w := (W.alloc (.cells #[.int .i64 n] 3)).at d) (ty := 38) Low 38 3 i z 1 8 Tryz.underlying38 hi hz hsize hby hzs (by decide) sl cnt xs hown1 ⟨W.heap.size, 0, none⟩ 1 1 [.int .i64 n] rfl hnew (by simp; rfl)
    hl63 (by omega) (by show Low ≤ (W.heap.push _).size; simp; omega)
  have hev := events_append_where (P := Tryz.prog) ((W.alloc (.cells #[.int .i64 n] 3)).at d) Low 38 38 3 i z 1 8 Tryz.underlying38 hi hz hsize hby sl cnt xs hown1 ⟨W.heap.size, 0, none⟩ 1 1 [.int .i64 n] rfl hnew (by simp; rfl) hl63 (by omega)
  have hob : ∀ b, b < Low → some b ≠ sl.ownBlock := fun b hb e => by have := (hown1.lt b e.symm).1; omega
  have hlow : ∀ b, b < Low → w'.heap[b]? = W.heap[b]? := fun b hb => (hgrow.block b (by show b < (W.heap.push _).size; simp; omega) (hob b hb)).trans (Below.heap_alloc W _ b (by omega))
  refine goes_oper_k rfl rfl hke (fun K hK => ?_)
  refine uponK_append (v := sl) (xv := .slice (some ⟨W.heap.size, 0, none⟩) 1 1) _ _ 38 rfl rfl rfl hr (hK _ _ ⟨⟨fun b hb => (hlow b hb).trans (Below.heap_alloc W _ b (by omega)).symm, fun e he => ?_⟩, ?_⟩)
  · have hm := mem_listed he
    rw [events_append_op (v := sl) (xv := .slice (some ⟨W.heap.size, 0, none⟩) 1 1) _ _ 38 rfl rfl rfl] at hm
    rcases hev e hm with ⟨ad, h1, h2⟩ | ⟨m, rfl, hmm⟩
    · have hb : Low ≤ ad.block ∧ ad.block ≤ W.heap.size := by
        rcases h2 with ⟨_, h2⟩ | h2
        · rw [h2]; exact ⟨hLow, Nat.le_refl _⟩
        · obtain ⟨h3, h4⟩ := hown1.lt _ h2.symm
          have h5 : ad.block < (W.heap.push (.cells #[.int .i64 n] 3)).size := h4
          rw [Array.size_push] at h5
          exact ⟨h3, by omega⟩
      exact ev0_own hL.wg hL.s.1 hown h1 hb.1 hb.2
    · exact ev0_noRoom hnr hmm
  clear hK K
  have hO2 : ∀ d, (w'.at d).cell? ⟨bO, 0, none⟩ = some (.chan (some Out)) := fun d => (World.cell?_of_block (hlow bO hL.o.1)).trans hO
  walk_nrm
  (l_in
   refine goes_oper_k rfl rfl hke (fun K hK => ?_)
   go_simp
   refine hK _ _ ⟨⟨fun _ _ => rfl, fun e he => ?_⟩, ?_⟩
   · have hm := mem_listed he
     simp [go_sem, storedEv, *] at hm
   clear hK K
   try walk_nrm)
  (l_in; rw [stepG_region_end]; simp only [goes_go]; refine ⟨⟨fun _ _ => rfl, fun e he => by simp at he⟩, ?_⟩)
  (l_in; rw [stepG_inBlock]; simp only [goes_go]; refine ⟨⟨fun _ _ => rfl, fun e he => by simp at he⟩, ?_⟩)
  (l_in; rw [stepG_region]; simp only [goes_go, List.size_toArray, List.length_cons, List.length_nil, Nat.reduceAdd, Nat.zero_add, List.range, List.range.loop]; refine ⟨⟨fun _ _ => rfl, fun e he => by simp at he⟩, ?_⟩)
  (l_in
   refine goes_oper_k rfl rfl hke (fun K hK => ?_)
   go_simp
   refine hK _ _ ⟨⟨fun _ _ => rfl, fun e he => ?_⟩, ?_⟩
   · have hm := mem_listed he
     simp [go_sem, storedEv, *] at hm
     try (subst hm; exact (ev0_read _ hL.o.2.2.2.1 hL.o.2.2.2.2 hko))
   clear hK K
   try walk_nrm)
  refine Goes.stop (fun w₂ h₂ => ⟨d, v', w', hr, ?_, hrow, hgrow, ?_⟩)
  · exact atRel_trans _ _ _ ⟨_, rfl⟩ h₂
  · exact recv2 hk x y bO bE Out End cs v' n (fun i => match i with
      | 16 => .int .i64 n | 17 => .int .i64 y | 18 => .bool true | 19 => .chan (some Out) | 21 => sl | 22 => .int .i64 n | 23 => .slice (some ⟨W.heap.size, 0, none⟩) 1 1 | 24 => v' | i => J i) rfl
end
end Go.Proofs.YtnikgcedifdaeaaGreatDoor.Up
end

section
/- The caller's own stretches: the closing, and Wait. -/
set_option linter.unusedSectionVars false
set_option linter.unusedVariables false
set_option linter.unusedSimpArgs false
namespace Go.Proofs.YtnikgcedifdaeaaGreatDoor.Up
open Go Go.Conc Go.ConcX Go.RowKit Go.Conc.Lib Go.ConcX.Gen Go.Proofs.YtnikgcedifdaeaaGreatDoor.Lift
noncomputable def ops11 : Array Oper := match c11 with | .seq (.region _ ops _) _ => ops | _ => #[]
noncomputable def c12 : Code := match c11 with | .seq _ c => c | _ => .skip
theorem loudU : (Tryz.prog.funcs[fU]?).any (·.norace) = false := by kernel_rfl
/-- Behind the closing. -/
noncomputable def gShut (k : CallKind) (x y : Int) (bS bO bE Wg Out End : Nat) (cs : List Frame) (sl : Value) (n : Int) (J : Nat → Value) : Goroutine :=
  G ((bU k).at ⟨TH x y bS bO bE Wg Out End sl n J, []⟩ [.inRegion ops10 [], .code c11]) cs
/-- Behind Wait. -/
noncomputable def gBack (k : CallKind) (x y : Int) (bS bO bE Wg Out End : Nat) (cs : List Frame) (sl : Value) (n : Int) (J : Nat → Value) : Goroutine :=
  G ((bU k).at ((⟨TH x y bS bO bE Wg Out End sl n J, []⟩ : Act).put ((ops11[0]?).bind (·.dst)) (.tuple #[])) [.inRegion ops11 [], .code c12]) cs
section
variable {k : CallKind} {x y : Int} {bS bO bE Wg Out End : Nat} {cs : List Frame} {sl : Value} {n : Int} {J : Nat → Value}
set_option maxRecDepth 100000 in
theorem close_step (hk : k = .normal ∨ k = .deferred) (hJ : J 25 = .chan (some End)) {w : World} {s r : Nat} (hc : w.heap[End]? = some (.chan 0 #[] false s r false)) :
    stepG Tryz.prog true (gClose k x y bS bO bE Wg Out End cs sl n J) w = .go (gShut k x y bS bO bE Wg Out End cs sl n J) (w.setChan End 0 #[] true s r false) (closeEvents End) ∧ mayWake Tryz.prog (gClose k x y bS bO bE Wg Out End cs sl n J) = true := by
  have hke : (bU k).kind ≠ .early := by rcases hk with rfl | rfl <;> decide
  constructor
  · have := stepG_close (P := Tryz.prog) (main := true) (b := bU k) (a := ⟨TH x y bS bO bE Wg Out End sl n J, []⟩) (kk := [.code c11]) (cs := cs) (w := w) (ops := ops10) (i := 1) (rest := []) (o := ops10.getD 1 default) (x := .tmp 25) (ats := #[138]) rfl rfl hke rfl (c := End) hJ hc loudU
    exact this
  · rfl
end
section
variable {Wg bS Low : Nat} [Shy Wg bS]
set_option maxRecDepth 100000 in
set_option maxHeartbeats 4000000 in
/-- From behind the closing into Wait. -/
theorem calWait {k : CallKind} (hk : k = .normal ∨ k = .deferred) (x y : Int) (bO bE Out End : Nat) (cs : List Frame) (sl : Value) (n : Int) (J : Nat → Value) (vals : List Value) (Wc : World) (w : World) (hF : Aside2 bS Wg Wc w ∧ KPa 148 Wg bS vals w) :
    Goes Tryz.prog true (RPa 148 Wg bS vals) (DPi (Mine Low End) Wg bS Low) (AtKd Tryz.prog 148 Wg bS Low vals (Mine Low End) (AnchW7 link (Aside2 bS Wg Wc) Wg bS vals ((bU k).at ⟨TH x y bS bO bE Wg Out End sl n J, []⟩ (.inRegion ops11 (0 :: []) :: [.code c12])) cs)) 7
      (gShut k x y bS bO bE Wg Out End cs sl n J) w := by
  have hke : (bU k).kind ≠ .early := by rcases hk with rfl | rfl <;> decide
  have fj2 : ∀ w w', Aside2 bS Wg w w' → Aside2 bS Wg Wc w → Aside2 bS Wg Wc w' := fun _ _ h1 h2 => h2.trans h1
  have hA := waitStart (L := link) (P := Tryz.prog) wgLib (Mine := Mine Low End) (Wg := Wg) (C := bS) (Low := Low) (vals := vals) (F := Aside2 bS Wg Wc) (b₀ := bU k) (a₀ := ⟨TH x y bS bO bE Wg Out End sl n J, []⟩) (ops₀ := ops11) (i₀ := 0) (rest₀ := []) (k₀ := [.code c12]) (cs := cs) fj2
  simp only [gShut, TH, ops11, c12, ops10, c11, c10, c3, bodyU, body_wait, Tryz.f78, waitFn, Option.getD_some, ptr] at hA ⊢
  u_c stepG_region_end (fa_rely (L := link) fj2) hF
  u_c stepG_seq (fa_rely (L := link) fj2) hF
  u_reg (fa_rely (L := link) fj2) hF
  u_in (fa_rely (L := link) fj2) hF
  refine goes_call rfl rfl hke rfl Tryz.func132 (nm_wait link) rfl ⟨by u_nil, ?_⟩
  walk_nrmf Tryz.f132
  exact hA _ hF
theorem calAnch {k : CallKind} (x y : Int) (bO bE Out End : Nat) (cs : List Frame) (sl : Value) (n : Int) (J : Nat → Value) (vals : List Value) (Wc : World) (hCW : bS ≠ Wg) (Post : Value → World → Prop)
    (hstop : ∀ w, Aside2 bS Wg Wc w → WgAt 148 Wg w 0 0 → Full bS vals w → Shy.stop Wg bS (gBack k x y bS bO bE Wg Out End cs sl n J) w) (g : Goroutine) (w : World)
    (h : AnchW7 link (Aside2 bS Wg Wc) Wg bS vals ((bU k).at ⟨TH x y bS bO bE Wg Out End sl n J, []⟩ (.inRegion ops11 (0 :: []) :: [.code c12])) cs g w) :
    ∃ m, Goes Tryz.prog true (RPa 148 Wg bS vals) (DPi (Mine Low End) Wg bS Low) (AtW1 Tryz.prog 148 Wg bS Low vals (Mine Low End) (AnchW7 link (Aside2 bS Wg Wc) Wg bS vals ((bU k).at ⟨TH x y bS bO bE Wg Out End sl n J, []⟩ (.inRegion ops11 (0 :: []) :: [.code c12])) cs) Post) m g w :=
  waitRound (mT := 0) wgLib hCW (fun _ _ h1 h2 => h2.trans h1) (fun w h1 h2 h3 => Goes.stop fun w₁ h₁ => ⟨rfl, by
    obtain ⟨d, rfl⟩ := h₁
    exact hstop _ (h1.trans ⟨rfl, rfl, rfl, rfl, fun _ _ _ => rfl⟩) h2 h3⟩) g w h
end
end Go.Proofs.YtnikgcedifdaeaaGreatDoor.Up
end

section
/- The shadow's stub of sabbath.upto: its code, and its steps. -/
set_option linter.unusedSectionVars false
set_option linter.unusedVariables false
set_option linter.unusedSimpArgs false
namespace Go.Proofs.YtnikgcedifdaeaaGreatDoor.Up
open Go Go.Conc Go.RowKit Go.Conc.Lib Go.Proofs.YtnikgcedifdaeaaGreatDoor.Lift
def op_ (d : Tmp) (o : Op) (t : TypeId) : Oper := { dst := some d, op := o, type := t, pos := "", after := #[], guard := none }
def i64 (n : Int) : Operand := .const (.int .i64 n)
def sG : Array Oper := #[op_ 28 (.move (.const (.bool true))) 4, { op_ 2 (.binOp .lss 3 (.const (.bool true)) (.const (.bool true)) 3) 4 with guard := some (0, true) }, op_ 2 (.binOp .lss 3 (.tmp 0) (i64 (-1073741824)) 3) 4, op_ 3 (.binOp .gtr 3 (.tmp 0) (i64 1073741824) 3) 4, op_ 5 (.binOp .gtr 3 (.tmp 1) (i64 1073741824) 3) 4]
def it_ : Oper := op_ 10 (.range 9 (.const (.string .empty))) 0
def sH : Array Oper := #[it_, it_, it_, it_, it_, it_]
def sV : Array Oper := #[op_ 11 (.binOp .sub 3 (i64 6) (.tmp 0) 3) 3, op_ 12 (.binOp .add 3 (.tmp 11) (i64 1073741830) 3) 3, op_ 13 (.binOp .rem 3 (.tmp 12) (i64 7) 3) 3, op_ 9 (.binOp .add 3 (.tmp 0) (.tmp 13) 3) 3, op_ 8 (.move (.const (.slice none 0 0))) 38]
def sC : Array Oper := #[op_ 18 (.binOp .leq 3 (.tmp 9) (.tmp 1) 3) 4]
def sA : Array Oper := #[op_ 23 (.buildSlice 38 1 #[(0, .tmp 9)]) 38, op_ 24 (.call { callee := .builtin .append, args := #[.tmp 8, .tmp 23], argTypes := #[38, 38] }) 38, op_ 8 (.move (.tmp 24)) 38, op_ 10 (.binOp .add 3 (.tmp 9) (i64 7) 3) 3, op_ 9 (.move (.tmp 10)) 3]
def sR : Array Oper := #[op_ 4 (.move (.tmp 8)) 38]
def no : Code := .refuse "out of the shadow's bounds"
def LS : Code := .seq (.region 3 sC false) (.seq (.cond (.tmp 18) .skip (.exit 0)) (.region 4 sA false))
def tailS : Code := .seq (.region 5 sR false) .ret
def bodyS : Code := .seq (.region 0 sG false) (.seq (.cond (.tmp 2) no .skip) (.seq (.cond (.tmp 3) no .skip) (.seq (.cond (.tmp 5) no .skip) (.seq (.region 1 sH false) (.seq (.region 2 sV false) (.seq (.block 0 (.loop LS)) tailS))))))
noncomputable def stubF : Func := { Tryz.f78 with body := some bodyS }
section
variable {V : Env} {Done : Goroutine → World → Prop}
theorem fin_next {P : Program} {g g1 : Goroutine} {w w1 : World} {τ : Tape} {es : Array Event} (h : Fin P Done g w) (nd : ¬ Done g w) (hs : stepG P true g (on w τ 0) = .go g1 w1 es) : Fin P Done g1 w1 := by
  cases h with
  | stop hd => exact absurd hd nd
  | step G W E hgo hov hfin =>
    have := hgo τ
    rw [hs] at this
    cases this
    exact hfin τ
/-- From the true machine M, T it comes to the mate of a shadow state behind (g, w). -/
def Concl (V : Env) (Done : Goroutine → World → Prop) (g : Goroutine) (w : World) (M : Machine) (T : Trace) : Prop :=
  Fin V.sh Done g w → ∃ N gs' w2' sl' t' q' g1' w1', runNT V.re N M T = (.next (crowd gs' w2' sl'), t') ∧ Desc V.sh Done g w g1' w1' ∧ Along V g1' w1' gs' w2' t' q'
theorem Concl.step {g g1 : Goroutine} {w w1 : World} {τ : Tape} {es : Array Event} {M : Machine} {T : Trace} (nd : ¬ Done g w) (hs : stepG V.sh true g (on w τ 0) = .go g1 w1 es) (h : Concl V Done g1 w1 M T) : Concl V Done g w M T := by
  intro hF
  obtain ⟨N, gs', w2', sl', t', q', g1', w1', h1, h2, h3⟩ := h (fin_next hF nd hs)
  exact ⟨N, gs', w2', sl', t', q', g1', w1', h1, .step nd hs h2, h3⟩
theorem Concl.run {g : Goroutine} {w : World} {M M' : Machine} {T T' : Trace} {N : Nat} (hr : runNT V.re N M T = (.next M', T')) (h : Concl V Done g w M' T') : Concl V Done g w M T := by
  intro hF
  obtain ⟨K, gs', w2', sl', t', q', g1', w1', h1, h2, h3⟩ := h hF
  exact ⟨N + K, gs', w2', sl', t', q', g1', w1', ConcX.runNT_trans hr h1, h2, h3⟩
theorem on_on (w : World) (τ τ' : Tape) (d d' : Nat) : on (on w τ d) τ' d' = on w τ' d' := rfl
def T0 : Tape := fun _ _ => 0
end
section
variable {V : Env} {Done : Goroutine → World → Prop}
theorem Concl.oper {b : Frame} {a : Act} {k : List Item} {cs : List Frame} {w : World} {ops : Array Oper} {i : Nat} {rest : List Nat} {o : Oper} {M : Machine} {T : Trace} (τ : Tape)
    (nd : ¬ Done (G (b.at a (.inRegion ops (i :: rest) :: k)) cs) w) (ho : ops[i]? = some o) (hw : Region.wanted o (yielded ops a.tmps) = true) (hk : b.kind ≠ .early)
    (h : ∀ K : Result Next → Prop, (∀ v w', Concl V Done (G (b.at (a.put o.dst v) (.inRegion ops rest :: k)) cs) w' M T → K (.ok (.value v) w')) → K ((execOp a.eval o).run V.sh (on w τ 0))) :
    Concl V Done (G (b.at a (.inRegion ops (i :: rest) :: k)) cs) w M T := by
  obtain ⟨v, w', e, hc⟩ := h (fun r => ∃ v w', r = .ok (.value v) w' ∧ Concl V Done (G (b.at (a.put o.dst v) (.inRegion ops rest :: k)) cs) w' M T) fun v w' hc => ⟨v, w', rfl, hc⟩
  exact Concl.step nd (stepG_value ho hw hk e) hc
end
/-- The stub's frames. -/
def gS (k : CallKind) (T : Array Value) (todo : List Item) (cs : List Frame) : Goroutine := G ((bU k).at ⟨T, []⟩ todo) cs
theorem run_append_op {P : Program} {a : Act} {w w' : World} {d : Tmp} {t ty : TypeId} {s x : Operand} {sv xv v : Value} (hs : a.eval s = sv) (hx : a.eval x = xv) (hr : (Builtin.append_ #[t, t] ty #[sv, xv]).run P w = .ok v w') :
    (execOp a.eval (op_ d (.call { callee := .builtin .append, args := #[s, x], argTypes := #[t, t] }) ty)).run P w = .ok (.value v) w' := by
  unfold execOp
  simp only [op_, resolve, invoke, builtin, Sem.run_bind, Sem.run_pure, Result.andThen_ok, List.map_toArray, List.map_cons, List.map_nil, hs, hx, hr]
section
variable {V : Env} {Done : Goroutine → World → Prop}
/-- The temporaries at the stub's loop. -/
def TL (x y : Int) (sl : Value) (n : Int) (J : Nat → Value) : Array Value := #[.int .i64 x, .int .i64 y, J 2, J 3, J 4, J 5, J 6, J 7, sl, .int .i64 n, J 10, J 11, J 12, J 13, J 14, J 15, J 16, J 17, J 18, J 19, J 20, J 21, J 22, J 23, J 24, J 25, J 26, J 27]
noncomputable def gLoop (k : CallKind) (x y : Int) (sl : Value) (n : Int) (J : Nat → Value) (cs : List Frame) : Goroutine := gS k (TL x y sl n J) [.code LS, .inLoop LS, .inBlock 0, .code tailS] cs
set_option maxRecDepth 100000 in
set_option maxHeartbeats 4000000 in
/-- Out of the loop, to the return. -/
theorem stubOut (hnd : ∀ g w, g.frame.fn = fU → ¬ Done g w) {k : CallKind} (hk : k = .normal ∨ k = .deferred) {x y n : Int} (sl : Value) (J : Nat → Value) (hn : ¬ n ≤ y) (cs : List Frame) (w : World) (M : Machine) (T : Trace)
    (h : ∀ J' : Nat → Value, Concl V Done (G { (bU k).at ⟨#[.int .i64 x, .int .i64 y, J' 2, J' 3, sl, J' 5, J' 6, J' 7, sl, .int .i64 n, J' 10, J' 11, J' 12, J' 13, J' 14, J' 15, J' 16, J' 17, J' 18, J' 19, J' 20, J' 21, J' 22, J' 23, J' 24, J' 25, J' 26, J' 27], []⟩ [.code .ret] with mode := .returning } cs) (on w T0 0) M T) :
    Concl V Done (gLoop k x y sl n J cs) w M T := by
  have hke : (bU k).kind ≠ .early := by rcases hk with rfl | rfl <;> decide
  simp only [gLoop, gS, TL, LS, tailS]
  (refine Concl.step (τ := T0) (hnd _ _ rfl) stepG_seq ?_)
  (refine Concl.step (τ := T0) (hnd _ _ rfl) stepG_region ?_; simp only [sG, sH, sV, sC, sA, sR, it_, op_, List.size_toArray, List.length_cons, List.length_nil, Nat.reduceAdd, Nat.zero_add, List.range, List.range.loop])
  (refine Concl.oper T0 (hnd _ _ rfl) rfl rfl hke (fun K hK => ?_); go_simp; refine hK _ _ ?_; clear hK K; try walk_nrm; try simp only [on_on])
  (refine Concl.step (τ := T0) (hnd _ _ rfl) stepG_region_end ?_)
  (refine Concl.step (τ := T0) (hnd _ _ rfl) stepG_seq ?_)
  refine Concl.step (τ := T0) (hnd _ _ rfl) (stepG_cond (t := false) (by simp [Act.eval, hn])) ?_
  simp only [Bool.false_eq_true, ↓reduceIte]
  refine Concl.step (τ := T0) (hnd _ _ rfl) (stepG_exit rfl) ?_
  (refine Concl.step (τ := T0) (hnd _ _ rfl) stepG_seq ?_)
  (refine Concl.step (τ := T0) (hnd _ _ rfl) stepG_region ?_; simp only [sG, sH, sV, sC, sA, sR, it_, op_, List.size_toArray, List.length_cons, List.length_nil, Nat.reduceAdd, Nat.zero_add, List.range, List.range.loop])
  (refine Concl.oper T0 (hnd _ _ rfl) rfl rfl hke (fun K hK => ?_); go_simp; refine hK _ _ ?_; clear hK K; try walk_nrm; try simp only [on_on])
  (refine Concl.step (τ := T0) (hnd _ _ rfl) stepG_region_end ?_)
  (refine Concl.step (τ := T0) (hnd _ _ rfl) stepG_ret' ?_)
  exact h (fun i => match i with | 18 => .bool false | i => J i)
set_option maxRecDepth 100000 in
set_option maxHeartbeats 4000000 in
/-- A round. -/
theorem stubRound (hnd : ∀ g w, g.frame.fn = fU → ¬ Done g w) {k : CallKind} (hk : k = .normal ∨ k = .deferred) {x y n : Int} (sl : Value) (J : Nat → Value) (hn : n ≤ y) (cs : List Frame) (w : World) (M : Machine) (T : Trace)
    (tab : V.sh.toTables = Tryz.prog.toTables) (τ : Tape) (sl' : Value) (w' : World) (hr : (app1 sl w.heap.size).run V.sh (on (w.alloc (.cells #[.int .i64 n] 3)) τ 0) = .ok sl' w')
    (h : ∀ J' : Nat → Value, Concl V Done (gLoop k x y sl' (IntKind.i64.wrap (n + 7)) J' cs) (on w' T0 0) M T) : Concl V Done (gLoop k x y sl n J cs) w M T := by
  obtain ⟨i, z, hi, hz, hsize, hby, hzs⟩ := info3
  have hi' : V.sh.info? 3 = some i := (tables_info tab 3).trans hi
  have ru : ∀ w, Sem.run V.sh (underlying 38) w = .ok (.slice 3) w := fun w => run_underlying ((tables_under tab 38).trans Tryz.underlying38) w
  have rs : ∀ w, Sem.run V.sh (sizeOf 3) w = .ok 1 w := fun w => by simp [sizeOf, typeInfo, hi', hsize]
  have rz : ∀ w, Sem.run V.sh (zeroValue 3) w = .ok z w := fun w => by simp [zeroValue, typeInfo, hi', hz]
  have hke : (bU k).kind ≠ .early := by rcases hk with rfl | rfl <;> decide
  simp only [gLoop, gS, TL, LS, tailS]
  (refine Concl.step (τ := T0) (hnd _ _ rfl) stepG_seq ?_)
  (refine Concl.step (τ := T0) (hnd _ _ rfl) stepG_region ?_; simp only [sG, sH, sV, sC, sA, sR, it_, op_, List.size_toArray, List.length_cons, List.length_nil, Nat.reduceAdd, Nat.zero_add, List.range, List.range.loop])
  (refine Concl.oper T0 (hnd _ _ rfl) rfl rfl hke (fun K hK => ?_); go_simp; refine hK _ _ ?_; clear hK K; try walk_nrm; try simp only [on_on])
  (refine Concl.step (τ := T0) (hnd _ _ rfl) stepG_region_end ?_)
  (refine Concl.step (τ := T0) (hnd _ _ rfl) stepG_seq ?_)
  refine Concl.step (τ := T0) (hnd _ _ rfl) (stepG_cond (t := true) (by simp [Act.eval, hn])) ?_
  simp only [↓reduceIte]
  (refine Concl.step (τ := T0) (hnd _ _ rfl) stepG_skip ?_)
  (refine Concl.step (τ := T0) (hnd _ _ rfl) stepG_region ?_; simp only [sG, sH, sV, sC, sA, sR, it_, op_, List.size_toArray, List.length_cons, List.length_nil, Nat.reduceAdd, Nat.zero_add, List.range, List.range.loop])
  refine Concl.oper T0 (hnd _ _ rfl) rfl rfl hke (fun K hK => ?_)
  go_simp
  simp only [ru, rs, on_on]
  go_simp
  try simp only [rz]
  try go_simp
  refine hK _ _ ?_
  clear hK K
  try walk_nrm
  have hr' : (Builtin.append_ #[38, 38] 38 #[sl, .slice (some ⟨(on w T0 0).heap.size, 0, none⟩) 1 1]).run V.sh (on ((on w T0 0).alloc (.cells #[.int .i64 n] 3)) τ 0) = .ok sl' w' := hr
  refine Concl.step (τ := τ) (hnd _ _ rfl) (stepG_value (o := op_ 24 (.call { callee := .builtin .append, args := #[.tmp 8, .tmp 23], argTypes := #[38, 38] }) 38) rfl rfl hke (run_append_op rfl rfl hr')) ?_
  simp only [op_]
  try walk_nrm
  (refine Concl.oper T0 (hnd _ _ rfl) rfl rfl hke (fun K hK => ?_); go_simp; refine hK _ _ ?_; clear hK K; try walk_nrm; try simp only [on_on])
  (refine Concl.oper T0 (hnd _ _ rfl) rfl rfl hke (fun K hK => ?_); go_simp; refine hK _ _ ?_; clear hK K; try walk_nrm; try simp only [on_on])
  (refine Concl.oper T0 (hnd _ _ rfl) rfl rfl hke (fun K hK => ?_); go_simp; refine hK _ _ ?_; clear hK K; try walk_nrm; try simp only [on_on])
  (refine Concl.step (τ := T0) (hnd _ _ rfl) stepG_region_end ?_)
  (refine Concl.step (τ := T0) (hnd _ _ rfl) stepG_inLoop ?_)
  exact h (fun i => match i with | 18 => .bool true | 23 => .slice (some ⟨w.heap.size, 0, none⟩) 1 1 | 24 => sl' | 10 => .int .i64 (IntKind.i64.wrap (n + 7)) | i => J i)
def six (w : World) : World := (((((w.alloc hollow).alloc hollow).alloc hollow).alloc hollow).alloc hollow).alloc hollow
def wfS (x : Int) : Int := IntKind.i64.wrap (x + (IntKind.i64.wrap (IntKind.i64.wrap (6 - x) + 1073741830)).tmod 7)
theorem wfS_eq {x : Int} (h0 : -1073741824 ≤ x) (h1 : x ≤ 1073741824) : wfS x = wf x := by
  have e1 : IntKind.i64.wrap (6 - x) = 6 - x := by rw [IntKind.wrap_i64]; omega
  unfold wfS wf br
  rw [e1]
  have e2 : IntKind.i64.wrap (6 - x + 1073741830) = 6 - x + 1073741830 := by rw [IntKind.wrap_i64]; omega
  rw [e2, Int.tmod_eq_emod_of_nonneg (by omega)]
  have l1 : (6 - x).tmod 7 < 7 := Int.tmod_lt_of_pos _ (by decide)
  have l2 : -7 < (6 - x).tmod 7 := Int.lt_tmod_of_pos _ (by decide)
  have l3 : (6 - x) = 7 * (6 - x).tdiv 7 + (6 - x).tmod 7 := (Int.mul_tdiv_add_tmod (6 - x) 7).symm
  generalize (6 - x).tmod 7 = r at l1 l2 l3
  generalize (6 - x).tdiv 7 = q at l3
  split
  · congr 1
    rw [IntKind.wrap_i64]
    omega
  · congr 1
    omega
set_option maxRecDepth 100000 in
set_option maxHeartbeats 4000000 in
/-- From the entry to the loop. -/
theorem stubStart (hnd : ∀ g w, g.frame.fn = fU → ¬ Done g w) {k : CallKind} (hk : k = .normal ∨ k = .deferred) {x y : Int} (hx0 : -1073741824 ≤ x) (hx : x ≤ 1073741824) (hy : y ≤ 1073741824) (J : Nat → Value) (cs : List Frame) (w : World) (M : Machine) (T : Trace)
    (tab : V.sh.toTables = Tryz.prog.toTables) (h : ∀ J' : Nat → Value, Concl V Done (gLoop k x y (.slice none 0 0) (wf x) J' cs) (on (six w) T0 0) M T) : Concl V Done (gS k (TU0 x y J) [.code bodyS] cs) w M T := by
  have ru : ∀ w, Sem.run V.sh (underlying 9) w = .ok .string w := fun w => run_underlying ((tables_under tab 9).trans Tryz.underlying9) w
  have rr : ∀ w, Sem.run V.sh (Instr.range 9 (.string ByteArray.empty)) w = .ok (.pointer (some ⟨w.heap.size, 0, none⟩)) (w.alloc hollow) := fun w => by
    simp [Instr.range, ru]
    rfl
  have hke : (bU k).kind ≠ .early := by rcases hk with rfl | rfl <;> decide
  simp only [gS, TU0, bodyS]
  (refine Concl.step (τ := T0) (hnd _ _ rfl) stepG_seq ?_)
  (refine Concl.step (τ := T0) (hnd _ _ rfl) stepG_region ?_; simp only [sG, sH, sV, sC, sA, sR, it_, op_, List.size_toArray, List.length_cons, List.length_nil, Nat.reduceAdd, Nat.zero_add, List.range, List.range.loop])
  (refine Concl.oper T0 (hnd _ _ rfl) rfl rfl hke (fun K hK => ?_); go_simp; refine hK _ _ ?_; clear hK K; try walk_nrm; try simp only [on_on])
  refine Concl.step (τ := T0) (hnd _ _ rfl) (stepG_unwanted rfl rfl) ?_
  try walk_nrm
  (refine Concl.oper T0 (hnd _ _ rfl) rfl rfl hke (fun K hK => ?_); go_simp; refine hK _ _ ?_; clear hK K; try walk_nrm; try simp only [on_on])
  (refine Concl.oper T0 (hnd _ _ rfl) rfl rfl hke (fun K hK => ?_); go_simp; refine hK _ _ ?_; clear hK K; try walk_nrm; try simp only [on_on])
  (refine Concl.oper T0 (hnd _ _ rfl) rfl rfl hke (fun K hK => ?_); go_simp; refine hK _ _ ?_; clear hK K; try walk_nrm; try simp only [on_on])
  (refine Concl.step (τ := T0) (hnd _ _ rfl) stepG_region_end ?_)
  (refine Concl.step (τ := T0) (hnd _ _ rfl) stepG_seq ?_)
  refine Concl.step (τ := T0) (hnd _ _ rfl) (stepG_cond (t := false) (by simp [Act.eval]; omega)) ?_
  simp only [Bool.false_eq_true, ↓reduceIte]
  (refine Concl.step (τ := T0) (hnd _ _ rfl) stepG_skip ?_)
  (refine Concl.step (τ := T0) (hnd _ _ rfl) stepG_seq ?_)
  refine Concl.step (τ := T0) (hnd _ _ rfl) (stepG_cond (t := false) (by simp [Act.eval]; omega)) ?_
  simp only [Bool.false_eq_true, ↓reduceIte]
  (refine Concl.step (τ := T0) (hnd _ _ rfl) stepG_skip ?_)
  (refine Concl.step (τ := T0) (hnd _ _ rfl) stepG_seq ?_)
  refine Concl.step (τ := T0) (hnd _ _ rfl) (stepG_cond (t := false) (by simp [Act.eval]; omega)) ?_
  simp only [Bool.false_eq_true, ↓reduceIte]
  (refine Concl.step (τ := T0) (hnd _ _ rfl) stepG_skip ?_)
  (refine Concl.step (τ := T0) (hnd _ _ rfl) stepG_seq ?_)
  (refine Concl.step (τ := T0) (hnd _ _ rfl) stepG_region ?_; simp only [sG, sH, sV, sC, sA, sR, it_, op_, List.size_toArray, List.length_cons, List.length_nil, Nat.reduceAdd, Nat.zero_add, List.range, List.range.loop])
  iterate 6
    refine Concl.oper T0 (hnd _ _ rfl) rfl rfl hke (fun K hK => ?_)
    go_simp
    try simp only [rr, on_on]
    try go_simp
    refine hK _ _ ?_
    clear hK K
    try walk_nrm
    try simp only [on_on]
  (refine Concl.step (τ := T0) (hnd _ _ rfl) stepG_region_end ?_)
  (refine Concl.step (τ := T0) (hnd _ _ rfl) stepG_seq ?_)
  (refine Concl.step (τ := T0) (hnd _ _ rfl) stepG_region ?_; simp only [sG, sH, sV, sC, sA, sR, it_, op_, List.size_toArray, List.length_cons, List.length_nil, Nat.reduceAdd, Nat.zero_add, List.range, List.range.loop])
  (refine Concl.oper T0 (hnd _ _ rfl) rfl rfl hke (fun K hK => ?_); go_simp; refine hK _ _ ?_; clear hK K; try walk_nrm; try simp only [on_on])
  (refine Concl.oper T0 (hnd _ _ rfl) rfl rfl hke (fun K hK => ?_); go_simp; refine hK _ _ ?_; clear hK K; try walk_nrm; try simp only [on_on])
  (refine Concl.oper T0 (hnd _ _ rfl) rfl rfl hke (fun K hK => ?_); go_simp; refine hK _ _ ?_; clear hK K; try walk_nrm; try simp only [on_on])
  (refine Concl.oper T0 (hnd _ _ rfl) rfl rfl hke (fun K hK => ?_); go_simp; refine hK _ _ ?_; clear hK K; try walk_nrm; try simp only [on_on])
  (refine Concl.oper T0 (hnd _ _ rfl) rfl rfl hke (fun K hK => ?_); go_simp; refine hK _ _ ?_; clear hK K; try walk_nrm; try simp only [on_on])
  (refine Concl.step (τ := T0) (hnd _ _ rfl) stepG_region_end ?_)
  (refine Concl.step (τ := T0) (hnd _ _ rfl) stepG_seq ?_)
  (refine Concl.step (τ := T0) (hnd _ _ rfl) stepG_block ?_)
  (refine Concl.step (τ := T0) (hnd _ _ rfl) stepG_loop ?_)
  have h' := h (fun i => match i with
    | 2 => .bool (decide (x < -1073741824)) | 3 => .bool (decide (x > 1073741824)) | 5 => .bool (decide (y > 1073741824)) | 10 => .pointer (some ⟨(((((w.alloc hollow).alloc hollow).alloc hollow).alloc hollow).alloc hollow).heap.size, 0, none⟩)
    | 11 => .int .i64 (IntKind.i64.wrap (6 - x)) | 12 => .int .i64 (IntKind.i64.wrap (IntKind.i64.wrap (6 - x) + 1073741830)) | 13 => .int .i64 ((IntKind.i64.wrap (IntKind.i64.wrap (6 - x) + 1073741830)).tmod 7) | i => J i)
  rw [← wfS_eq hx0 hx] at h'
  exact h'
end
end Go.Proofs.YtnikgcedifdaeaaGreatDoor.Up
end

section
/- What the shadow's run tells of upto's arguments. -/
set_option linter.unusedSectionVars false
set_option linter.unusedVariables false
set_option linter.unusedSimpArgs false
namespace Go.Proofs.YtnikgcedifdaeaaGreatDoor.Up
open Go Go.Conc Go.RowKit Go.Conc.Lib Go.Proofs.YtnikgcedifdaeaaGreatDoor.Lift
section
variable {V : Env} {Done : Goroutine → World → Prop}
/-- A step that ends the run is none of Fin's. -/
theorem fin_ended {P : Program} {g : Goroutine} {w : World} {τ : Tape} (h : Fin P Done g w) (nd : ¬ Done g w) (hs : ∃ o w1 es, stepG P true g (on w τ 0) = .ended o w1 es) : False := by
  obtain ⟨o, w1, es, hs⟩ := hs
  cases h with
  | stop hd => exact nd hd
  | step G W E hgo hov hfin =>
    have := hgo τ
    rw [hs] at this
    cases this
def cmpOp (o : BinOp) : Prop := o = .lss ∨ o = .gtr
theorem stuck_ended {P : Program} {b : Frame} {a : Act} {k : List Item} {cs : List Frame} {w w' : World} {ops : Array Oper} {i : Nat} {rest : List Nat} {o : Oper} {m : String} (ho : ops[i]? = some o)
    (hw : Region.wanted o (yielded ops a.tmps) = true) (hk : b.kind ≠ .early) (hr : (execOp a.eval o).runT P w #[] = (.halt (.stuck m) w', #[])) :
    ∃ o w1 es, stepG P true (G (b.at a (.inRegion ops (i :: rest) :: k)) cs) w = .ended o w1 es := by
  have hk' : (b.kind == CallKind.early) = false := by simpa using hk
  rw [stepG_oper ho hw]
  exact ⟨_, _, _, by simp [stepG.apply, hr, G, Frame.at, hk', GStep.after, -Sem.runT_eq]; exact ⟨rfl, rfl, rfl⟩⟩
theorem cmp_ended {P : Program} {b : Frame} {a : Act} {k : List Item} {cs : List Frame} {w : World} {ops : Array Oper} {i : Nat} {rest : List Nat} {d : Tmp} {op : BinOp} {x : Operand} {c : Int} {t : TypeId} (ho : ops[i]? = some (op_ d (.binOp op 3 x (i64 c) 3) t))
    (hw : Region.wanted (op_ d (.binOp op 3 x (i64 c) 3) t) (yielded ops a.tmps) = true) (hk : b.kind ≠ .early) (hop : cmpOp op) (hv : ∀ n, a.eval x ≠ .int .i64 n) :
    ∃ o w1 es, stepG P true (G (b.at a (.inRegion ops (i :: rest) :: k)) cs) w = .ended o w1 es := by
  have hk' : (b.kind == CallKind.early) = false := by simpa using hk
  have hr : ∃ u, ((∃ m, u = Halt.stuck m) ∨ u = .unsupported .addressObserved) ∧ (execOp a.eval (op_ d (.binOp op 3 x (i64 c) 3) t)).runT P w #[] = (.halt u w, #[]) := by
    unfold execOp
    simp only [op_]
    rw [show a.eval (i64 c) = .int .i64 c from rfl]
    generalize a.eval x = v at hv
    have eg : ∀ op, cmpOp op → eqGuard op 3 x (i64 c) v (.int .i64 c) = Pure.pure () := fun op h => by rcases h with rfl | rfl <;> rfl
    rw [eg op hop]
    have hb : ∃ u, ((∃ m, u = Halt.stuck m) ∨ u = .unsupported .addressObserved) ∧ binOp op 3 v (.int .i64 c) = Sem.halt u := by
      cases v with
      | int k n =>
        have hk : k ≠ .i64 := fun e => hv n (by rw [e])
        rcases hop with rfl | rfl <;> exact ⟨_, .inl ⟨_, rfl⟩, by simp [binOp, hk]; rfl⟩
      | pointer a => cases a <;> rcases hop with rfl | rfl <;> exact ⟨_, .inr rfl, rfl⟩
      | _ => rcases hop with rfl | rfl <;> exact ⟨_, .inl ⟨_, rfl⟩, rfl⟩
    obtain ⟨u, hu, hb⟩ := hb
    rw [hb]
    exact ⟨u, hu, rfl⟩
  rw [stepG_oper ho hw]
  obtain ⟨u, hu, hr⟩ := hr
  rcases hu with ⟨m, rfl⟩ | rfl
  · exact ⟨_, _, _, by simp [stepG.apply, hr, G, Frame.at, hk', GStep.after, -Sem.runT_eq]; exact ⟨rfl, rfl, rfl⟩⟩
  · exact ⟨_, _, _, by simp [stepG.apply, hr, G, Frame.at, hk', GStep.after, -Sem.runT_eq]; exact ⟨rfl, rfl, rfl⟩⟩
theorem array28 (T : Array Value) (h : T.size = 28) : ∃ v0 v1 : Value, ∃ J : Nat → Value, T = #[v0, v1, J 2, J 3, J 4, J 5, J 6, J 7, J 8, J 9, J 10, J 11, J 12, J 13, J 14, J 15, J 16, J 17, J 18, J 19, J 20, J 21, J 22, J 23, J 24, J 25, J 26, J 27] := by
  refine ⟨T.getD 0 undef, T.getD 1 undef, fun i => T.getD i undef, ?_⟩
  apply Array.ext
  · simp [h]
  · intro i h1 h2
    have hi : i < 28 := by omega
    rcases i with _ | _ | _ | _ | _ | _ | _ | _ | _ | _ | _ | _ | _ | _ | _ | _ | _ | _ | _ | _ | _ | _ | _ | _ | _ | _ | _ | _ | i <;> first
      | (exfalso; omega)
      | simp [Array.getD, h]
set_option maxRecDepth 100000 in
set_option maxHeartbeats 4000000 in
/-- The temporaries at upto's entry, as the shadow goes on. -/
theorem finArgs (hnd : ∀ g w, g.frame.fn = fU → ¬ Done g w) {k : CallKind} (hk : k = .normal ∨ k = .deferred) {T : Array Value} (hT : 28 ≤ T.size) {cs : List Frame} {w : World} (h : Fin V.sh Done (gS k T [.code bodyS] cs) w) :
    ∃ x y J, T = TU0 x y J ∧ -1073741824 ≤ x ∧ x ≤ 1073741824 ∧ y ≤ 1073741824 := by
  have hke : (bU k).kind ≠ .early := by rcases hk with rfl | rfl <;> decide
  simp only [gS, bodyS] at h
  replace h := fin_next (τ := T0) h (hnd _ _ rfl) stepG_seq
  replace h := fin_next (τ := T0) h (hnd _ _ rfl) stepG_region
  simp only [sG, List.size_toArray, List.length_cons, List.length_nil, Nat.reduceAdd, Nat.zero_add, List.range, List.range.loop] at h
  replace h := fin_next (τ := T0) h (hnd _ _ rfl) (stepG_value (v := .bool true) (w' := on w T0 0) rfl rfl hke rfl)
  by_cases hsz : T.size = 28
  · obtain ⟨v0, v1, J, rfl⟩ := array28 T hsz
    replace h := fin_next (τ := T0) h (hnd _ _ rfl) (stepG_unwanted rfl rfl)
    have hx : ∃ x, v0 = .int .i64 x := Classical.byContradiction fun hn => fin_ended (τ := T0) h (hnd _ _ rfl) (cmp_ended (op := .lss) (x := .tmp 0) (c := -1073741824) rfl rfl hke (.inl rfl) (fun n e => hn ⟨n, e⟩))
    obtain ⟨x, rfl⟩ := hx
    replace h := fin_next (τ := T0) h (hnd _ _ rfl) (stepG_value (v := .bool (decide (x < -1073741824))) (w' := on w T0 0) rfl rfl hke rfl)
    replace h := fin_next (τ := T0) h (hnd _ _ rfl) (stepG_value (v := .bool (decide (x > 1073741824))) (w' := on w T0 0) rfl rfl hke rfl)
    have hy : ∃ y, v1 = .int .i64 y := Classical.byContradiction fun hn => fin_ended (τ := T0) h (hnd _ _ rfl) (cmp_ended (op := .gtr) (x := .tmp 1) (c := 1073741824) rfl rfl hke (.inr rfl) (fun n e => hn ⟨n, e⟩))
    obtain ⟨y, rfl⟩ := hy
    replace h := fin_next (τ := T0) h (hnd _ _ rfl) (stepG_value (v := .bool (decide (y > 1073741824))) (w' := on w T0 0) rfl rfl hke rfl)
    replace h := fin_next (τ := T0) h (hnd _ _ rfl) stepG_region_end
    replace h := fin_next (τ := T0) h (hnd _ _ rfl) stepG_seq
    replace h := fin_next (τ := T0) h (hnd _ _ rfl) (stepG_cond (t := decide (x < -1073741824)) rfl)
    have hx0 : -1073741824 ≤ x := Classical.byContradiction fun hn => by
      rw [if_pos (by simp; omega)] at h
      exact fin_ended (τ := T0) h (hnd _ _ rfl) ⟨_, _, _, rfl⟩
    rw [if_neg (by simp; omega)] at h
    replace h := fin_next (τ := T0) h (hnd _ _ rfl) stepG_skip
    replace h := fin_next (τ := T0) h (hnd _ _ rfl) stepG_seq
    replace h := fin_next (τ := T0) h (hnd _ _ rfl) (stepG_cond (t := decide (x > 1073741824)) rfl)
    have hx1 : x ≤ 1073741824 := Classical.byContradiction fun hn => by
      rw [if_pos (by simp; omega)] at h
      exact fin_ended (τ := T0) h (hnd _ _ rfl) ⟨_, _, _, rfl⟩
    rw [if_neg (by simp; omega)] at h
    replace h := fin_next (τ := T0) h (hnd _ _ rfl) stepG_skip
    replace h := fin_next (τ := T0) h (hnd _ _ rfl) stepG_seq
    replace h := fin_next (τ := T0) h (hnd _ _ rfl) (stepG_cond (t := decide (y > 1073741824)) rfl)
    have hy1 : y ≤ 1073741824 := Classical.byContradiction fun hn => by
      rw [if_pos (by simp; omega)] at h
      exact fin_ended (τ := T0) h (hnd _ _ rfl) ⟨_, _, _, rfl⟩
    exact ⟨x, y, J, rfl, hx0, hx1, hy1⟩
  · exfalso
    have hbig : 28 < T.size := by omega
    refine fin_ended (τ := T0) h (hnd _ _ rfl) ?_
    have hk' : ((bU k).kind == CallKind.early) = false := by simpa using hke
    have hw : Region.wanted (sG.getD 1 default) (yielded sG (T.setIfInBounds 28 (.bool true))) = true := by
      have hy : yielded sG (T.setIfInBounds 28 (.bool true)) 0 = some true := by
        have e : (T.setIfInBounds 28 (.bool true))[28]? = some (.bool true) := by simp [hbig]
        unfold yielded
        simp only [sG, op_, List.getElem?_toArray, List.getElem?_cons_zero, Option.bind_some, e]
      show (yielded sG (T.setIfInBounds 28 (.bool true)) 0 == some true) = true
      rw [hy]
      rfl
    exact stuck_ended (a := ⟨T.setIfInBounds 28 (.bool true), []⟩) (ops := sG) (o := sG.getD 1 default) (w' := on (on w T0 0) T0 0) rfl hw hke rfl
end
end Go.Proofs.YtnikgcedifdaeaaGreatDoor.Up
end

section
/- The caller behind Wait: to its return; and the return itself, in both programs. -/
set_option linter.unusedSectionVars false
set_option linter.unusedVariables false
set_option linter.unusedSimpArgs false
namespace Go.Proofs.YtnikgcedifdaeaaGreatDoor.Up
open Go Go.Conc Go.ConcX Go.RowKit Go.Conc.Lib Go.ConcX.Gen Go.Proofs.YtnikgcedifdaeaaGreatDoor.Lift
/-- At the return: slot 4 holds the result. -/
def gRet (k : CallKind) (T : Array Value) (cs : List Frame) : Goroutine := G { (bU k).at ⟨T, []⟩ [.code .ret] with mode := .returning } cs
section
variable {Shun : Loc → Prop} {B : Nat}
set_option maxRecDepth 100000 in
set_option maxHeartbeats 4000000 in
theorem calEnd {k : CallKind} (hk : k = .normal ∨ k = .deferred) (x y : Int) (bS bO bE Wg Out End : Nat) (cs : List Frame) (sl : Value) (n : Int) (J : Nat → Value) (W : World) :
    ∃ m, Goes Tryz.prog true AtRel (DE (EvL Shun B)) (fun g w => (∃ T : Array Value, T.size = 28 ∧ T[4]? = some sl ∧ g = gRet k T cs) ∧ AtRel W w) m (gBack k x y bS bO bE Wg Out End cs sl n J) W := by
  have hke : (bU k).kind ≠ .early := by rcases hk with rfl | rfl <;> decide
  refine ⟨20, ?_⟩
  simp only [gBack, TH, ops11, c12, c11, c10, c3, bodyU, Tryz.f78, Option.getD_some, ptr]
  try walk_nrm
  (l_in; rw [stepG_region_end]; simp only [goes_go]; refine ⟨fun e he => by simp at he, ?_⟩)
  (l_in; rw [stepG_seq]; simp only [goes_go]; refine ⟨fun e he => by simp at he, ?_⟩)
  (l_in; rw [stepG_region]; simp only [goes_go, List.size_toArray, List.length_cons, List.length_nil, Nat.reduceAdd, Nat.zero_add, List.range, List.range.loop]; refine ⟨fun e he => by simp at he, ?_⟩)
  (l_in
   refine goes_oper_k rfl rfl hke (fun K hK => ?_)
   go_simp
   refine hK _ _ ⟨fun e he => ?_, ?_⟩
   · have hm := mem_listed he
     simp [go_sem, storedEv, *] at hm
   clear hK K
   try walk_nrm)
  (l_in
   refine goes_oper_k rfl rfl hke (fun K hK => ?_)
   go_simp
   refine hK _ _ ⟨fun e he => ?_, ?_⟩
   · have hm := mem_listed he
     simp [go_sem, storedEv, *] at hm
   clear hK K
   try walk_nrm)
  (l_in; rw [stepG_region_end]; simp only [goes_go]; refine ⟨fun e he => by simp at he, ?_⟩)
  (l_in; rw [stepG_ret']; simp only [goes_go]; refine ⟨fun e he => by simp at he, ?_⟩)
  refine Goes.stop (fun w₂ h₂ => ⟨⟨_, ?_, ?_, rfl⟩, ?_⟩)
  · rfl
  · rfl
  · obtain ⟨d, rfl⟩ := h₂
    exact ⟨_, rfl⟩
end
/-- The caller's frame behind a deferred call's return. -/
def retTo (c : Frame) : Frame := match c.mode with
  | .panicking ({ recovered := true, .. } :: older) => match older.dropWhile (!·.goexit) with
    | [] => { c with mode := .returning }
    | rest => { c with mode := .panicking rest }
  | _ => c
theorem retTo_ok {V : Env} {c : Frame} (h : FrameOk V c) : FrameOk V (retTo c) := by
  unfold retTo
  split
  · split
    · exact h.moded _
    · exact h.moded _
  · exact h
/-- The return itself: the same in both programs. -/
theorem ret_step {k : CallKind} (hk : k = .normal ∨ k = .deferred) (sl : Value) (c : Frame) : ∃ c', (∀ (P : Program) (fn : Func), P.funcs[fU]? = some fn → fn.results = #[.tmp 4] → ∀ (T : Array Value) (w : World) (r : List Frame), T[4]? = some sl →
    stepG P true (gRet k T (c :: r)) w = .go (G c' r) w #[]) ∧ ∀ V, FrameOk V c → FrameOk V c' := by
  rcases hk with rfl | rfl
  · refine ⟨c.finish sl, fun P fn hf hr T w r h4 => ?_, fun V h => h.finish sl⟩
    have h4' : T.getD 4 undef = sl := by simp [Array.getD_eq_getD_getElem?, h4]
    exact stepG_leave (b := bU .normal) (a := ⟨T, []⟩) rfl rfl hf (by rw [results_tmp hr, h4']) (events_results_tmp hr _ _)
  · refine ⟨retTo c, fun P fn hf hr T w r h4 => ?_, fun V h => retTo_ok h⟩
    have h4' : T.getD 4 undef = sl := by simp [Array.getD_eq_getD_getElem?, h4]
    have h1 : (results fn T).run P w = .ok sl w := by rw [results_tmp hr, h4']
    have h2 : (results fn T).events P w #[] = #[] := events_results_tmp hr _ _
    simp [gRet, G, stepG, unwind, doReturn, Frame.at, base, hf, h1, h2, seen, GStep.after, retTo]
    rcases c with ⟨fn, tmps, todo, defers, mode, kind, ro⟩
    cases mode with
    | panicking l =>
      rcases l with _ | ⟨⟨v, rec, ge⟩, older⟩
      · rfl
      · cases rec <;> rfl
    | _ => rfl
end Go.Proofs.YtnikgcedifdaeaaGreatDoor.Up
end

section
/- What an operation of the two must meet; and the phase's end: from the kit's 'acquired' back to a frame. (The caller's close reads the channel's block atomically: so the kit's own end does not serve.) -/
set_option linter.unusedSectionVars false
set_option linter.unusedVariables false
namespace Go.Proofs.YtnikgcedifdaeaaGreatDoor.Lift
open Go Go.Conc Go.ConcX
open Go.ConcN (sumTo upd upd_ne upd_same)
def okG (Shun Mine : Loc → Prop) (Wg : Nat) (act : MemAct) : Prop :=
  (∀ x, act.touch? = some x → (Shun x.loc → x.kind ≠ .plain) ∧ (x.kind = .atomic → OfWg Wg x.loc ∨ Mine x.loc)) ∧ ∀ k, act = .go k → k = 1
section
variable {Shun Mine : Loc → Prop} {Wg C B' : Nat}
theorem okG_still {act : MemAct} (h : act.touch? = none) (hg : ∀ k, act ≠ .go k) : okG Shun Mine Wg act := ⟨fun x hx => (by rw [h] at hx; cases hx), fun k e => absurd e (hg k)⟩
theorem okG_cell (a : Addr) (wr sy : Bool) (hs : ¬ Shun (.cell a)) (hm : sy = true → OfWg Wg (.cell a) ∨ Mine (.cell a)) : okG Shun Mine Wg (.access ⟨.cell a, wr, sy⟩) :=
  ⟨fun x hx => by
    simp only [MemAct.touch?, Option.some.injEq] at hx
    subst hx
    exact ⟨fun h => absurd h hs, fun e => hm (by cases sy <;> simp_all)⟩, fun k e => by cases e⟩
theorem okG_wg (a : Addr) (wr : Bool) (h : a.block = Wg) : okG Shun Mine Wg (.access ⟨.cell a, wr, true⟩) :=
  ⟨fun x hx => by
    simp only [MemAct.touch?, Option.some.injEq] at hx
    subst hx
    exact ⟨fun _ => by simp, fun _ => .inl ⟨a, rfl, h⟩⟩, fun k e => by cases e⟩
theorem okG_said (act : MemAct) (a : Addr) (h : act = .mark (.read a) ∨ act = .mark (.write a)) : okG Shun Mine Wg act := by
  rcases h with rfl | rfl <;> exact ⟨fun x hx => by
    simp only [MemAct.touch?, Option.some.injEq] at hx
    subst hx
    exact ⟨fun _ => by simp, fun e => by simp at e⟩, fun k e => by cases e⟩
/-- Behind the closing: all that is named lies below B'. -/
@[reducible] def shyB (Shun Mine : Loc → Prop) (B' Wg C : Nat) (stop : Goroutine → World → Prop) (hW : Wg < B') (hC : C < B') (hCS : ∀ a : Addr, a.block = C → ¬ Shun (.cell a)) : Shy Wg C where
  ok act := okG Shun Mine Wg act ∧ act.low B'
  atomicWg a wr h := ⟨okG_wg a wr h, by show a.block < B'; omega⟩
  readWg a h := ⟨okG_said _ a (.inl rfl), by show a.block < B'; omega⟩
  writeWg a h := ⟨okG_said _ a (.inr rfl), by show a.block < B'; omega⟩
  theirs a wr h := ⟨okG_cell a wr false (hCS a h) (fun e => by cases e), by show a.block < B'; omega⟩
  disable := ⟨okG_still rfl (by simp), trivial⟩
  enable := ⟨okG_still rfl (by simp), trivial⟩
  relMerge := ⟨okG_still rfl (by simp), hW⟩
  acquire := ⟨okG_still rfl (by simp), hW⟩
  go1 := ⟨⟨fun x hx => (by cases hx), fun k e => (by cases e; rfl)⟩, trivial⟩
  start := ⟨okG_still rfl (by simp), trivial⟩
  stop := stop
/-- While the two talk. -/
@[reducible] def shyA (Shun Mine : Loc → Prop) (B Wg C : Nat) (hW : Wg < B) (hC : C < B) (hCS : ∀ a : Addr, a.block = C → ¬ Shun (.cell a)) : Shy Wg C := shyB Shun Mine B Wg C (fun _ _ => False) hW hC hCS
/-- The trace's law under another instance. -/
theorem jt_re {I1 I2 : Shy Wg C} {s : Trace} {p : Nat} (h : @JT Mine Wg C I1 s p) (k : ∀ op ∈ s, @Shy.ok Wg C I2 op.act) : @JT Mine Wg C I2 s p :=
  @JT.mk Mine Wg C I2 s p (@JT.fm Mine Wg C I1 s p h) (@JT.quiet Mine Wg C I1 s p h) (@JT.solo Mine Wg C I1 s p h) (@JT.plain Mine Wg C I1 s p h) (@JT.nr Mine Wg C I1 s p h) (@JT.norel Mine Wg C I1 s p h) k
end
section
variable [Payload] {P : Program} {ty : TypeId} {Wg C Low : Nat} [Shy Wg C] {vals : List Value} {Mine : Loc → Prop} {Post : Value → World → Prop} {c : Nat} {t₀ : Trace} {Shun : Loc → Prop} {B B' : Nat}
omit [Payload] in
theorem wind_facts (hok : ∀ act, Shy.ok Wg C act → okG Shun Mine Wg act ∧ act.low B') (hMS : ∀ l, Mine l → ¬ ShT Wg C l) {s : Trace} {p : Nat} (hj : JT Mine Wg C s p) (hA : Acq Wg s) :
    (∀ i k, s.act? i = some (.go k) → k ≠ 0) ∧
    (∀ i a, touchAt s i = some a → a.loc.isMemory = true → Knows s 0 i ∨ (OfWg Wg a.loc ∧ a.kind = .atomic)) ∧
    (∀ i, s.g? i = some 1 → ∃ j, s.g? j = some 0 ∧ HappensBefore s j i) ∧
    (∀ i a, touchAt s i = some a → Shun a.loc → a.kind ≠ .plain) ∧ (∀ op ∈ s, op.act.low B') := by
  obtain ⟨x0, hx0, hx01, hx02⟩ := hj.fm.go
  obtain ⟨y0, hy0, hy01, hy02⟩ := hj.fm.start
  have late1 : ∀ i op, s[i]? = some op → op.g = 1 → p + 1 ≤ i := by
    intro i op ho h1
    rcases Nat.lt_trichotomy i p with h | rfl | h
    · have := hj.fm.early i op ho h; omega
    · rw [hx0] at ho; cases ho; omega
    · omega
  refine ⟨fun i k h => ?_, fun i a ha hm => ?_, fun i hi => ?_, fun i a ha hs => ?_, fun op hop => (hok _ (hj.oks op hop)).2⟩
  · obtain ⟨op, ho, hoa⟩ := Option.map_eq_some_iff.1 h
    have := (hok _ (hj.oks op (mem_of_getElem? ho))).1.2 k hoa
    omega
  · obtain ⟨x, hx, hxa⟩ := touch_of ha
    obtain ⟨q, r, hr, hq, hg, hh, hrq⟩ := hA
    rcases hj.fm.two hx with e | e
    · have := knows_own hx
      rw [e] at this
      exact .inl this
    · have hgi : s.g? i = some 1 := by simp [Trace.g?, hx, e]
      rcases Nat.lt_or_ge r i with hlt | hle
      · have hnc := hr.after i hlt hgi
        have hk : a.kind = .atomic := by
          by_cases hk : a.kind = .atomic
          · exact hk
          · exact absurd ⟨a, ha, hm, .inl hk⟩ hnc
        rcases ((hok _ (hj.oks x (mem_of_getElem? hx))).1.1 a hxa).2 hk with h | h
        · exact .inr ⟨h, hk⟩
        · exfalso
          obtain ⟨z, hz, hzg⟩ := Option.map_eq_some_iff.1 hr.g
          have h1 := late1 r z hz hzg
          have h2 : p + 1 < i := by omega
          rcases (hj.fm.late i x hx h2).2 a hxa with h3 | ⟨h3, _⟩ | ⟨_, _, h3⟩
          · exact hMS _ h h3
          · omega
          · exact h3 h
      · obtain ⟨z, hz, hzg⟩ := Option.map_eq_some_iff.1 hg
        have edge : HappensBefore s r q := .single (.inr ⟨.marked hrq (.inr hr.act) hq (fun k _ _ => hj.norel k), hr.heard, hh⟩)
        refine .inl ⟨q, z, hz, hzg, .inr ?_⟩
        rcases Nat.lt_or_ge i r with hlt | hge
        · exact .trans (.single (.inl ⟨hlt, 1, hgi, hr.g⟩)) edge
        · obtain rfl : i = r := by omega
          exact edge
  · obtain ⟨op, ho, hog⟩ := Option.map_eq_some_iff.1 hi
    have edge : HappensBefore s p (p + 1) := .single (.inr ⟨.spawn (child := 1) (by rw [act?_of hx0, hx02]) (by rw [act?_of hy0, hy02]) (by simp [Trace.g?, hy0, hy01]), hj.fm.hgo, hj.fm.hstart⟩)
    refine ⟨p, by simp [Trace.g?, hx0, hx01], ?_⟩
    have h1 := late1 i op ho hog
    rcases Nat.lt_or_ge (p + 1) i with h2 | h2
    · exact edge.trans (hb_po h2 hy0 ho (hy01.trans hog.symm))
    · obtain rfl : i = p + 1 := by omega
      exact edge
  · obtain ⟨x, hx, hxa⟩ := touch_of ha
    exact ((hok _ (hj.oks x (mem_of_getElem? hx))).1.1 a hxa).1 hs
/-- The phase's end: a frame again, with one leaver more, the group's cells shunned; goroutine 0 at its stop. -/
theorem wind (hok : ∀ act, Shy.ok Wg C act → okG Shun Mine Wg act ∧ act.low B') (hMS : ∀ l, Mine l → ¬ ShT Wg C l) (hP : Past Shun B t₀) (hB : B ≤ B') {M : Machine} {T : Trace} (h : GDone P ty Wg C Low vals Mine Post c t₀ M T) :
    ∃ (N : Nat) (gs : Array Goroutine) (a : Goroutine) (w : World) (sl : Option (Nat × Nat)) (T' : Trace) (q : Nat → Nat), runNT P N M T = (.next (crowd gs w sl), T') ∧ gs.size = c + 1 ∧ gs[0]? = some a ∧
      a.status = .running ∧ Shy.stop Wg C a w ∧ Leavers P T' gs q ∧ Past (fun l => Shun l ∨ OfWg Wg l) B' T' := by
  obtain ⟨gs, a, b, w, sl, s, q, rfl, hBig, hAcq, φ, L⟩ := h
  obtain ⟨a1, b1, w1, sl1, p, d1, k, mp, r, vs, e, hBase, hG, hA, hq⟩ := hAcq
  obtain ⟨rfl, rfl, rfl, rfl⟩ := duo_inj e
  obtain ⟨go1, known, rooted, shy, low⟩ := wind_facts hok hMS hBase.jt hA
  have hL : Leavers P T gs (upd q c k) := ⟨fun i g hi hg => by
    have hilt : i < gs.size := (Array.getElem?_eq_some_iff.1 hg).1
    by_cases hic : i = c
    · subst hic
      obtain rfl : g = b := by rw [hBig.hc] at hg; exact (Option.some.inj hg).symm
      have := L.dfe 1 (.inr rfl)
      rw [renG_one, hBase.deaf1] at this
      rw [upd_same, this]
      exact hq
    · rw [upd_ne q k hic]
      exact hBig.old i g hi (by have := hBig.size; omega) hg, fun j hj => hBig.above j (by have := hBig.size; omega)⟩
  have hP' := past_of_link hBase.jt.two go1 hP hB L hBase.jt.nr known rooted shy low (hA.handedOver hBase.jt) hBase.deaf0
  have hev : ∀ w w' es, DPj Mine Wg C Low w w' es → ∀ e ∈ es, EvL (fun l => Shun l ∨ OfWg Wg l) B' e := fun _ _ es hD e he => by
    obtain ⟨h1, h2, h3⟩ := hD.2 e he
    obtain ⟨_, ht, _, hk⟩ := h1 0 ""
    refine ⟨fun x hx hs => ?_, h2, h3, (hok _ hk).2⟩
    rcases hs with hs | ⟨a, ha, hb⟩
    · exact ((hok _ hk).1.1 x hx).1 hs
    · exact (ht x hx).2.1 (.inl ⟨a, ha, hb⟩)
  obtain ⟨N, gs', a', w', sl', T', q', hr, hs, h0', hS, hL', hP''⟩ := walk_beside (P := P) hev _ mp gs a w sl T _ (Nat.le_refl _) hBig.h0 hL hP' hG
  exact ⟨N, gs', a', w', sl', T', q', hr, hs.trans hBig.size, h0', hS.1, hS.2, hL', hP''⟩
end
end Go.Proofs.YtnikgcedifdaeaaGreatDoor.Lift
end

section
/- From upto's entry to the two that talk. -/
set_option linter.unusedSectionVars false
set_option linter.unusedVariables false
set_option linter.unusedSimpArgs false
namespace Go.Proofs.YtnikgcedifdaeaaGreatDoor.Up
open Go Go.Conc Go.ConcX Go.RowKit Go.Conc.Lib Go.ConcX.Gen Go.Proofs.YtnikgcedifdaeaaGreatDoor.Lift
open Go.ConcN (sumTo)
/-- Through Add to the go statement, beside leavers: the two stand. -/
theorem upFork {Shun : Loc → Prop} {Wg bS bO bE Out End Low B : Nat} (hW : Wg < B) (hC : bS < B) (hL : Lay bS bO bE Out End Wg Low) (hCS : ∀ a : Addr, a.block = bS → ¬ Shun (.cell a)) {k : CallKind} (hk : k = .normal ∨ k = .deferred) (x y : Int) (J : Nat → Value) (cs : List Frame) {gs : Array Goroutine} {w : World} {sl : Option (Nat × Nat)} {t₀ : Trace} {q : Nat → Nat}
    (h0 : gs[0]? = some (G ((bU k).at ⟨TU3 x y bS bO bE Wg Out End J, []⟩ [.code c3]) cs)) (hLv : Leavers Tryz.prog t₀ gs q) (hear : Deaf t₀ 0 = 0) (hWA : WgAt 148 Wg w 0 0) :
    ∃ N gs' d sl' T q' s p, runNT Tryz.prog N (crowd gs w sl) t₀ = (.next (crowd gs' ((w.setCell (stA Wg) (.int .u64 KK)).at d) sl'), T) ∧
      Big Tryz.prog gs.size gs' (gGo k x y bS bO bE Wg Out End J cs) (born Tryz.prog (callK bS bO bE Wg)) T q' ∧ @Tr (Mine Low End) Wg bS (shyA Shun (Mine Low End) B Wg bS hW hC hCS) gs.size t₀ s T p := by
  letI : Shy Wg bS := shyA Shun (Mine Low End) B Wg bS hW hC hCS
  have hpos : 0 < gs.size := (Array.getElem?_eq_some_iff.1 h0).1
  have hc0 : gs.size ≠ 0 := by omega
  obtain ⟨n0, g0⟩ := cal2 (bS := bS) hk x y bO bE Out End J cs w hWA
  obtain ⟨N0, gs0, a0, w0, sl0, T0, q0, s0, d0, sl0', r0, z0, h00, L0, ST0, K0, ⟨_, a0', go0, n1, g1⟩, st0⟩ :=
    lone_beside (c := gs.size) (t₀ := t₀) (fun _ _ x => x.1) hc0 _ n0 gs _ w sl t₀ q #[] 0 rfl (Nat.le_refl _) h0 hLv ST.nil ⟨id, Link.init hear (hLv.above _ (Nat.le_refl _)) id⟩ g0
  have p0 : 0 < gs0.size := by omega
  have e0 := runNT_then r0 (st0.trans (runT_crowd_go (P := Tryz.prog) (i := 0) h00 (show stepG Tryz.prog (0 == 0) a0 (w0.at d0) = _ from go0)))
  obtain ⟨N1, gs1, a1, w1, sl1, T1, q1, s1, d1, sl1', r1, z1, h01, L1, ST1, K1, ⟨_, a1', go1, n2, g2⟩, st1⟩ :=
    lone_beside (c := gs.size) (t₀ := t₀) (fun _ _ x => x.1) hc0 _ n1 ((gs0.map (woken Tryz.prog a0 a0' (w0.at d0))).setIfInBounds 0 a0') a0' (w0.at d0) sl0' (T0 ++ MemOp.ofEvents 0 a0.frame.fn a0.frame.place #[mk .disable]) q0
      (s0 ++ MemOp.ofEvents 0 a0.frame.fn a0.frame.place #[mk .disable]) 1 rfl (by simp [z0]) (by simp [p0]) (L0.own p0 _ _ _)
      (ST0.mark a0.frame.fn a0.frame.place .disable rfl (by simp) (by simp) Shy.disable) (K0.events hc0 (.inl rfl) a0.frame.fn a0.frame.place _) g1
  have z1' : gs1.size = gs.size := by rw [z1]; simp [z0]
  have p1 : 0 < gs1.size := by omega
  have e1 := runNT_then (ConcX.runNT_trans e0 r1) (st1.trans (runT_crowd_go (P := Tryz.prog) (i := 0) h01 (show stepG Tryz.prog (0 == 0) a1 (w1.at d1) = _ from go1)))
  obtain ⟨N2, gs2, a2, w2, sl2, T2, q2, s2, d2, sl2', r2, z2, h02, L2, ST2, K2, ⟨_, dd, hw2, hsp⟩, st2⟩ :=
    lone_beside (c := gs.size) (t₀ := t₀) (fun _ _ x => x.1) hc0 _ n2 ((gs1.map (woken Tryz.prog a1 a1' (w1.at d1))).setIfInBounds 0 a1') a1' (w1.at d1) sl1' (T1 ++ MemOp.ofEvents 0 a1.frame.fn a1.frame.place #[mk .enable]) q1
      (s1 ++ MemOp.ofEvents 0 a1.frame.fn a1.frame.place #[mk .enable]) 0 rfl (by simp [z1']) (by simp [p1]) (L1.own p1 _ _ _)
      (ST1.mark a1.frame.fn a1.frame.place .enable rfl (by simp) (by simp) Shy.enable) (K1.events hc0 (.inl rfl) a1.frame.fn a1.frame.place _) g2
  have z2' : gs2.size = gs.size := by rw [z2]; simp [z1']
  have p2 : 0 < gs2.size := by omega
  have e2 := runNT_then (ConcX.runNT_trans e1 r2) (st2.trans (runT_crowd_spawn (P := Tryz.prog) (i := 0) h02 (show stepG Tryz.prog (0 == 0) a2 (w2.at d2) = _ from hsp)))
  rw [hw2] at e2
  obtain ⟨hJT, hd0, hd1, hna⟩ := JT.init (Mine := Mine Low End) (x := { g := 0, fn := a2.frame.fn, pos := a2.frame.place, act := .go 1 }) (y := { g := 1, fn := (born Tryz.prog (callK bS bO bE Wg)).frame.fn, pos := a2.frame.place, act := .start }) ST2 ⟨rfl, rfl⟩ ⟨rfl, rfl⟩
  obtain ⟨φ, Lk⟩ := K2
  have Lk2 := (Lk.both hc0 (op := { g := 0, fn := a2.frame.fn, pos := a2.frame.place, act := .go 1 }) (.inl rfl)).both hc0 (op := { g := 1, fn := (born Tryz.prog (callK bS bO bE Wg)).frame.fn, pos := a2.frame.place, act := .start }) (.inr rfl)
  have keep : ∀ op ∈ ((MemOp.ofEvents 0 a2.frame.fn a2.frame.place #[]).push { g := 0, fn := a2.frame.fn, pos := a2.frame.place, act := .go gs2.size }).push { g := gs2.size, fn := (born Tryz.prog (callK bS bO bE Wg)).frame.fn, pos := a2.frame.place, act := .start }, op.act ≠ .mark .disable ∧ op.act ≠ .mark .enable := by
    intro op hop
    simp only [Array.mem_push] at hop
    rcases hop with (hop | rfl) | rfl
    · simp [MemOp.ofEvents] at hop
    · simp
    · simp
  refine ⟨N0 + 1 + N1 + 1 + N2 + 1, (gs2.setIfInBounds 0 (gGo k x y bS bO bE Wg Out End J cs)).push (born Tryz.prog (callK bS bO bE Wg)), dd, sl2', _, q2, _, s2.size, e2, ⟨by simp [z2'], hpos, ?_, ?_, fun j x hj hjc hx => ?_, fun j hj => ?_⟩, ⟨?_, hJT, hd0, hd1, hna⟩⟩
  · rw [Array.getElem?_push_lt (by simpa using p2)]; simp
  · have e : gs.size = (gs2.setIfInBounds 0 (gGo k x y bS bO bE Wg Out End J cs)).size := by simp [z2']
    rw [e, Array.getElem?_push_size]
  · have hx' : gs2[j]? = some x := by
      rw [Array.getElem?_push, if_neg (by simp; omega), Array.getElem?_setIfInBounds_ne (by omega)] at hx
      exact hx
    rw [Deaf_keep _ j _ keep]
    exact L2.old j x hj hx'
  · rw [Deaf_keep _ j _ keep]
    exact L2.above j (by omega)
  · have e4 : T2 ++ ((MemOp.ofEvents 0 a2.frame.fn a2.frame.place #[]).push { g := 0, fn := a2.frame.fn, pos := a2.frame.place, act := .go gs2.size }).push { g := gs2.size, fn := (born Tryz.prog (callK bS bO bE Wg)).frame.fn, pos := a2.frame.place, act := .start }
        = T2 ++ #[renOp gs.size { g := 0, fn := a2.frame.fn, pos := a2.frame.place, act := .go 1 }] ++ #[renOp gs.size { g := 1, fn := (born Tryz.prog (callK bS bO bE Wg)).frame.fn, pos := a2.frame.place, act := .start }] := by
      apply Array.toList_inj.1; simp [renOp, renG, renAct, z2', MemOp.ofEvents]
    have e3 : (s2.push { g := 0, fn := a2.frame.fn, pos := a2.frame.place, act := .go 1 }).push { g := 1, fn := (born Tryz.prog (callK bS bO bE Wg)).frame.fn, pos := a2.frame.place, act := .start }
        = s2 ++ #[{ g := 0, fn := a2.frame.fn, pos := a2.frame.place, act := .go 1 }] ++ #[{ g := 1, fn := (born Tryz.prog (callK bS bO bE Wg)).frame.fn, pos := a2.frame.place, act := .start }] := by simp
    rw [e3, e4]
    exact ⟨_, Lk2⟩
end Go.Proofs.YtnikgcedifdaeaaGreatDoor.Up
end

section
/- What holds while the two talk, and its turns. -/
set_option linter.unusedSectionVars false
set_option linter.unusedVariables false
set_option linter.unusedSimpArgs false
namespace Go.Proofs.YtnikgcedifdaeaaGreatDoor.Up
open Go Go.Conc Go.ConcX Go.RowKit Go.Conc.Lib Go.ConcX.Gen Go.Proofs.YtnikgcedifdaeaaGreatDoor.Lift
open Go.ConcN (sumTo)
section
variable {Shun Mine : Loc → Prop} {B Wg C : Nat} {hW : Wg < B} {hC : C < B} {hCS : ∀ a : Addr, a.block = C → ¬ Shun (.cell a)}
/-- What the open limb lets by, under shyA. -/
theorem ok_read (a : Addr) (h : ¬ Shun (.cell a)) (hb : a.block < B) : (shyA Shun Mine B Wg C hW hC hCS).ok (.access ⟨.cell a, false, false⟩) := ⟨okG_cell a false false h (fun e => by cases e), hb⟩
theorem ok_own {Low End : Nat} (a : Addr) (wr sy : Bool) (hl : Low ≤ a.block) (h : ¬ Shun (.cell a)) (hb : a.block < B) : (shyA Shun (Up.Mine Low End) B Wg C hW hC hCS).ok (.access ⟨.cell a, wr, sy⟩) :=
  ⟨okG_cell a wr sy h (fun _ => .inr (.inl ⟨a, rfl, hl⟩)), hb⟩
theorem ok_noRoom : (shyA Shun Mine B Wg C hW hC hCS).ok (.mark .noRoom) := ⟨okG_still rfl (by simp), trivial⟩
theorem ok_comm {Out : Nat} (hb : Out < B) (s1 r1 : Nat) : (shyA Shun Mine B Wg C hW hC hCS).ok (.send Out s1) ∧ (shyA Shun Mine B Wg C hW hC hCS).ok (.recv Out r1 0) ∧ (shyA Shun Mine B Wg C hW hC hCS).ok (.sendDone Out s1) ∧ (shyA Shun Mine B Wg C hW hC hCS).ok (.recvDone Out r1) :=
  ⟨⟨okG_still rfl (by simp), hb⟩, ⟨okG_still rfl (by simp), hb⟩, ⟨okG_still rfl (by simp), hb⟩, ⟨okG_still rfl (by simp), hb⟩⟩
/-- Under a greater bound. -/
theorem tr_re {c p : Nat} {t₀ s T : Trace} {B2 : Nat} {hW2 : Wg < B2} {hC2 : C < B2} (h : @Tr Mine Wg C (shyA Shun Mine B Wg C hW hC hCS) c t₀ s T p) (hB : B ≤ B2) : @Tr Mine Wg C (shyA Shun Mine B2 Wg C hW2 hC2 hCS) c t₀ s T p := by
  obtain ⟨lk, jt, d0, d1, na⟩ := h
  have ok := @JT.oks Mine Wg C (shyA Shun Mine B Wg C hW hC hCS) s p jt
  exact @Tr.mk Mine Wg C (shyA Shun Mine B2 Wg C hW2 hC2 hCS) c t₀ s T p lk (jt_re (I1 := shyA Shun Mine B Wg C hW hC hCS) (I2 := shyA Shun Mine B2 Wg C hW2 hC2 hCS) jt fun op hop => ⟨(ok op hop).1, MemAct.low_mono hB (ok op hop).2⟩) d0 d1 na
end
theorem aside_chan (w : World) (d Out s r : Nat) : Aside Out w ((w.at d).setChan Out 0 #[] false s r false) := by
  refine ⟨rfl, rfl, rfl, ?_, fun k hk => ?_⟩
  · show (w.heap.setIfInBounds Out _).size = _
    simp
  · rw [Lift.heap_setChan, if_neg hk]
    rfl
theorem at_eq {w1 w2 : World} {d2 d3 : Nat} (h : w2.at d2 = w1.at d3) : w2.heap = w1.heap ∧ w2.tape = w1.tape ∧ w2.os = w1.os ∧ w2.output = w1.output :=
  ⟨show (w2.at d2).heap = (w1.at d3).heap by rw [h], show (w2.at d2).tape = (w1.at d3).tape by rw [h], show (w2.at d2).os = (w1.at d3).os by rw [h], show (w2.at d2).output = (w1.at d3).output by rw [h]⟩
/-- From a receive at which the caller has been picked to the loop's head. -/
theorem recvHead {Shun : Loc → Prop} {Wg bS bO bE Out End Low B c p : Nat} {hW : Wg < B} {hC : bS < B} (hOB : Out < B) {t₀ : Trace} (hL : Lay bS bO bE Out End Wg Low) (hCS : ∀ a : Addr, a.block = bS → ¬ Shun (.cell a)) {k : CallKind} {x y : Int} {cs : List Frame} {slv : Value}
    {mk : Nat} {gs : Array Goroutine} {a b : Goroutine} {w : World} {sl sl' : Option (Nat × Nat)} {d : Nat} {T s : Trace} {q : Nat → Nat} {n : Int} (hB : Big Tryz.prog c gs a b T q) (hT : @Tr (Mine Low End) Wg bS (shyA Shun (Mine Low End) B Wg bS hW hC hCS) c t₀ s T p)
    {D : World → World → Array Event → Prop} (hD : ∀ w w' es, D w w' es → @DK (Mine Low End) Wg bS (shyA Shun (Mine Low End) B Wg bS hW hC hCS) w w' es) (hk : Kid Tryz.prog D Wg Low Out End (.int .i64 0) (.agg #[]) .select (Sel bS bO bE Out End Wg x) mk (.int .i64 n) b (w.at d)) (ho : Lift.Open Out End (w.at d)) (hst : stepT Tryz.prog (crowd gs w sl) = runT Tryz.prog (crowd gs (w.at d) sl') 0)
    (hr : @RecvOk Low k x y bS bO bE Wg Out End (shyA Shun (Mine Low End) B Wg bS hW hC hCS) cs slv a) :
    ∃ N gs' b' w' sl2 T' s' q' mk' J, runNT Tryz.prog N (crowd gs w sl) T = (.next (crowd gs' w' sl2), T') ∧ Big Tryz.prog c gs' (gHead k x y bS bO bE Wg Out End cs slv n J) b' T' q' ∧ @Tr (Mine Low End) Wg bS (shyA Shun (Mine Low End) B Wg bS hW hC hCS) c t₀ s' T' p ∧
      Kid Tryz.prog Dq Wg Low Out End (.int .i64 0) (.agg #[]) .select (Sel bS bO bE Out End Wg x) mk' (.int .i64 (IntKind.i64.wrap (n + 7))) b' w' ∧ Lift.Open Out End w' ∧ Aside Out w w' := by
  letI : Shy Wg bS := shyA Shun (Mine Low End) B Wg bS hW hC hCS
  have hK := kidOk (x := x) (bS := bS) (bO := bO) (bE := bE) (Out := Out) (End := End) (Wg := Wg) (Low := Low)
  obtain ⟨ra, hcomm, hnext⟩ := hr
  obtain ⟨N, gs', b', d', s1, r1, sl2, T', s', q', mk', hrun, hc, hB', hT', hk', ho'⟩ := talk_recv hD hK hL.out.2.1 (ok_comm hOB) hB hT hk ho hst ra hcomm
  obtain ⟨m, hG⟩ := hnext n ((w.at d').setChan Out 0 #[] false (s1 + 1) (r1 + 1) false)
  obtain ⟨N2, gs2, a2, b2, w2, sl3, T2, s2, q2, mk2, d2, sl4, hrun2, hB2, hT2, hk2, ho2, ⟨⟨J, hJ⟩, hat⟩, hst2⟩ :=
    talk_run (fun _ _ _ h => h.dk) hK hL.out.1 hL.end_.1 (fun g w h => by obtain ⟨⟨J, rfl⟩, _⟩ := h; rfl) _ m mk' gs' _ b' _ sl2 T' s' q' _ (Nat.le_refl _) hB' hT' hk' ho' hG
  subst hJ
  obtain ⟨d3, hat⟩ := hat
  have has : Aside Out w w2 := by
    have h1 := aside_chan w d' Out (s1 + 1) (r1 + 1)
    obtain ⟨e, e1, e2, e3⟩ := at_eq hat
    refine ⟨e1.trans h1.tape, e2.trans h1.os, e3.trans h1.output, by rw [e]; exact h1.size, fun k hk => by rw [e]; exact h1.block k hk⟩
  exact ⟨N + N2, gs2, b2, w2, sl3, T2, s2, q2, mk2, J, ConcX.runNT_trans hrun hrun2, hB2, hT2, hk2.rely (fun _ _ _ _ _ => rfl), ho2.of_heap rfl rfl, has⟩
end Go.Proofs.YtnikgcedifdaeaaGreatDoor.Up
end

section
/- The shadow's world beside the true one, while the two talk. -/
set_option linter.unusedSectionVars false
set_option linter.unusedVariables false
set_option linter.unusedSimpArgs false
namespace Go.Proofs.YtnikgcedifdaeaaGreatDoor.Up
open Go Go.Conc Go.ConcX Go.RowKit Go.Proofs.YtnikgcedifdaeaaGreatDoor.Lift
section
variable {V : Env} {Bad : Nat → Prop} {w1 w w' : World}
/-- A shunned block of the phase's turns. -/
theorem sh_aside (h : Sh V Bad w1 w) {c : Nat} (hA : Aside c w w') (hb : Bad c) (hc : V.n0 ≤ c) (ho : ∃ o, w'.heap[c]? = some o ∧ Bare o) : Sh V Bad w1 w' := by
  have hs : V.strict = true → w'.heap = w1.heap → True := fun _ _ => trivial
  refine ⟨h.tab, hA.size.trans h.size, fun i hi => ?_, h.poison, fun i hi => ?_, hA.os.trans h.os, hA.output.trans h.output, h.calm, fun hst => ?_, fun i h1 h2 => ?_, fun i h1 h2 => ?_⟩
  · have hne : i ≠ c := fun e => hi (e ▸ hb)
    rw [hA.block i hne]
    exact h.same i hi
  · by_cases hic : i = c
    · subst hic
      exact .inl ⟨hc, ho⟩
    · rw [hA.block i hic]
      exact h.real i hi
  · exfalso
    have e := h.exact hst
    have p := h.poison c hb
    rcases h.real c hb with ⟨_, o, h1, h2⟩ | ⟨h1, _⟩
    · rw [e, p] at h1
      cases h1
      rcases h2 with ⟨a, b, h2⟩ | ⟨_, _, _, _, _, _, h2⟩ <;> cases h2
    · omega
  · have hne : i ≠ c := fun e => h2 (e ▸ hb)
    rw [hA.block i hne]
    exact h.low i h1 h2
  · rw [hA.block i (by omega)]
    exact h.old i h1 h2
/-- Draws do not matter. -/
theorem sh_draw (h : Sh V Bad w1 w) {τ : Tape} {d : Nat} (e : w'.heap = w.heap) (e2 : w'.os = w.os) (e3 : w'.output = w.output) : Sh V Bad (on w1 τ d) w' :=
  ⟨h.tab, by rw [e]; exact h.size, fun i hi => by rw [e]; exact h.same i hi, h.poison, fun i hi => by rw [e]; exact h.real i hi, e2.trans h.os, e3.trans h.output, h.calm, fun hs => by rw [e]; exact h.exact hs, fun i a b => by rw [e]; exact h.low i a b, fun i a b => by rw [e]; exact h.old i a b⟩
/-- A slice that the run has made is the same in both. -/
theorem sh_owns (h : Sh V Bad w1 w) {base : Nat} {e : TypeId} {size : Nat} {v : Value} {n : Nat} {xs : List Value} (hbase : ∀ g, base ≤ g → ¬ Bad g) (ho : w.ownsRow base e size v n xs) : w1.ownsRow base e size v n xs := by
  refine ⟨ho.1, ho.2.imp id ?_⟩
  rintro ⟨g, cap, cur, e1, e2, e3, e4⟩
  refine ⟨g, cap, cur, e1, e2, ?_, e4⟩
  rcases h.same g (hbase g e2) with e5 | ⟨a1, a2, a3, a4, a5, a6, a7, a8, h1, h2⟩
  · rw [← e5]; exact e3
  · rw [h2] at e3; cases e3
/-- append, in both. -/
theorem app_both (hre : V.re = Tryz.prog) (tab : Tab V) (hB : ∀ i, V.ok i → ¬ Bad i) (hS : Sh V Bad w1 w) {Low : Nat} (hbase : ∀ g, Low ≤ g → ¬ Bad g) (hLow : Low ≤ w.heap.size) {slv : Value} {cnt : Nat} {xs : List Value} (hown : w.ownsRow Low 3 1 slv cnt xs) (hcnt : cnt < 1000000000) {n : Int} {d : Nat} {sl' : Value} {wA : World}
    (hr : (app1 slv w.heap.size).run Tryz.prog ((w.alloc (.cells #[.int .i64 n] 3)).at d) = .ok sl' wA) :
    ∃ τ w1', (app1 slv w1.heap.size).run V.sh (on (w1.alloc (.cells #[.int .i64 n] 3)) τ 0) = .ok sl' w1' ∧ Sh V Bad w1' wA := by
  obtain ⟨i, z, hi, hz, hsize, hby, hzs⟩ := info3
  have ht : V.sh.toTables = Tryz.prog.toTables := tab.tables.trans (by rw [hre])
  have hi' : V.sh.info? 3 = some i := (tables_info ht 3).trans hi
  have hu : V.sh.underlying 38 = some (.slice 3) := (tables_under ht 38).trans Tryz.underlying38
  have hsz := hS.size
  let τ : Tape := fun j q => w.tape (d + j) q
  have hP : Sh V Bad (w1.alloc (.cells #[.int .i64 n] 3)) (w.alloc (.cells #[.int .i64 n] 3)) := hS.push _ rfl
  have hQ : Sh V Bad (on (w1.alloc (.cells #[.int .i64 n] 3)) τ 0) ((w.alloc (.cells #[.int .i64 n] 3)).at d) := sh_draw hP rfl rfl rfl
  have own1 : (on (w1.alloc (.cells #[.int .i64 n] 3)) τ 0).ownsRow Low 3 1 slv cnt xs := by
    have h1 := sh_owns hS hbase hown
    refine ⟨h1.1, h1.2.imp id ?_⟩
    rintro ⟨g, cap, cur, e1, e2, e3, e4⟩
    exact ⟨g, cap, cur, e1, e2, (Below.heap_alloc w1 _ g (Array.getElem?_eq_some_iff.1 e3).1).trans e3, e4⟩
  have hnew : ∀ (j : Nat) (u : Value), ([.int .i64 n] : List Value)[j]? = some u → (on (w1.alloc (.cells #[.int .i64 n] 3)) τ 0).cell? ((⟨w1.heap.size, 0, none⟩ : Addr).add j) = some u := by
    intro j u hj
    obtain rfl : j = 0 := by
      have := (List.getElem?_eq_some_iff.1 hj).1
      simpa using this
    have : u = .int .i64 n := by simpa using hj.symm
    subst this
    show (w1.alloc (.cells #[.int .i64 n] 3)).cell? ⟨w1.heap.size, 0, none⟩ = _
    rw [World.cell?_alloc_new]
    rfl
  have hl63 : cnt + 1 ≤ maxLen := by
    have : 2000000000 ≤ maxLen := by decide
    omega
  obtain ⟨v1, w1', hr1, _⟩ := run_append_own (P := V.sh) (w := on (w1.alloc (.cells #[.int .i64 n] 3)) τ 0) (ty := 38) Low 38 3 i z 1 8 hu hi' hz hsize hby hzs (by decide) slv cnt xs own1 ⟨w1.heap.size, 0, none⟩ 1 1 [.int .i64 n] rfl hnew (by simp; rfl)
    hl63 (by omega) (by show Low ≤ (w1.heap.push _).size; simp; omega)
  have hlead := Lead.append_ tab #[38, 38] 38 #[slv, .slice (some ⟨w1.heap.size, 0, none⟩) 1 1] Bad _ _ w1'.drawn #[] hB hQ (fun k hk => by
    funext q
    show w.tape (d + k) q = w.tape (d + (0 + k)) q
    rw [Nat.zero_add])
  rw [hr1] at hlead
  obtain ⟨w2', new, e2, out⟩ := hlead (by show w1'.drawn ≤ 0 + w1'.drawn; omega)
  have e3 : (app1 slv w.heap.size).run Tryz.prog ((w.alloc (.cells #[.int .i64 n] 3)).at d) = .ok v1 w2' := by
    rw [← hre, ← Sem.runT_fst V.re _ _ #[]]
    unfold app1
    rw [hsz, e2]
  rw [hr] at e3
  cases e3
  exact ⟨τ, w1', hr1, out.sh⟩
end
end Go.Proofs.YtnikgcedifdaeaaGreatDoor.Up
end

section
/- A round of the talk, in both. -/
set_option linter.unusedSectionVars false
set_option linter.unusedVariables false
set_option linter.unusedSimpArgs false
namespace Go.Proofs.YtnikgcedifdaeaaGreatDoor.Up
open Go Go.Conc Go.ConcX Go.RowKit Go.Proofs.YtnikgcedifdaeaaGreatDoor.Lift
open Go.ConcN (sumTo)
/-- The two traces, all named below N. -/
def TrA (Shun : Loc → Prop) (Wg bS Low End c p : Nat) (t₀ : Trace) (hCS : ∀ a : Addr, a.block = bS → ¬ Shun (.cell a)) (N : Nat) (s T : Trace) : Prop :=
  ∃ (B : Nat) (hW : Wg < B) (hC : bS < B), B ≤ N ∧ @Tr (Mine Low End) Wg bS (shyA Shun (Mine Low End) B Wg bS hW hC hCS) c t₀ s T p
theorem midRound {V : Env} {Bad : Nat → Prop} {Shun : Loc → Prop} {Wg bS bO bE Out End Low c p : Nat} {t₀ : Trace} (hL : Lay bS bO bE Out End Wg Low) (hCS : ∀ a : Addr, a.block = bS → ¬ Shun (.cell a)) {k : CallKind} (hk : k = .normal ∨ k = .deferred) {x y : Int} {cs : List Frame} {slv : Value}
    (hre : V.re = Tryz.prog) (tab : Tab V) (hBok : ∀ i, V.ok i → ¬ Bad i) (hbase : ∀ g, Low ≤ g → ¬ Bad g) (hbO : Bad Out) (hn0 : V.n0 ≤ Out) (hSh : ∀ a : Addr, bS ≤ a.block → ¬ Shun (.cell a)) (hShO : ¬ Shun (.cell ⟨bO, 0, none⟩)) (hSl : bS ≤ Low)
    {mk : Nat} {gs : Array Goroutine} {b : Goroutine} {w w1 : World} {sl : Option (Nat × Nat)} {T s : Trace} {q : Nat → Nat} {n : Int} {J : Nat → Value} (hB : Big Tryz.prog c gs (gHead k x y bS bO bE Wg Out End cs slv n J) b T q) (hT : TrA Shun Wg bS Low End c p t₀ hCS w.heap.size s T)
    (hkid : Kid Tryz.prog Dq Wg Low Out End (.int .i64 0) (.agg #[]) .select (Sel bS bO bE Out End Wg x) mk (.int .i64 (IntKind.i64.wrap (n + 7))) b w) (ho : Lift.Open Out End w) (hKR : KR bS bO bE Out End x w) (hLow : Low ≤ w.heap.size)
    {cnt : Nat} {xs : List Value} (hown : w.ownsRow Low 3 1 slv cnt xs) (hcnt : cnt < 1000000000) (hS : Sh V Bad w1 w) (hn : n ≤ y) :
    ∃ N gs' b' w' sl2 T' s' q' mk' J' slv' w1' τ, runNT Tryz.prog N (crowd gs w sl) T = (.next (crowd gs' w' sl2), T') ∧ Big Tryz.prog c gs' (gHead k x y bS bO bE Wg Out End cs slv' (IntKind.i64.wrap (n + 7)) J') b' T' q' ∧ TrA Shun Wg bS Low End c p t₀ hCS w'.heap.size s' T' ∧
      Kid Tryz.prog Dq Wg Low Out End (.int .i64 0) (.agg #[]) .select (Sel bS bO bE Out End Wg x) mk' (.int .i64 (IntKind.i64.wrap (IntKind.i64.wrap (n + 7) + 7))) b' w' ∧ Lift.Open Out End w' ∧ KR bS bO bE Out End x w' ∧ Low ≤ w'.heap.size ∧
      w'.ownsRow Low 3 1 slv' (cnt + 1) (xs ++ [.int .i64 n]) ∧ (app1 slv w1.heap.size).run V.sh (on (w1.alloc (.cells #[.int .i64 n] 3)) τ 0) = .ok slv' w1' ∧ Sh V Bad w1' w' ∧ ∀ j, j < Low → j ≠ Out → w'.heap[j]? = w.heap[j]? := by
  have hW : Wg < w.heap.size + 1 := by have := hL.wg; omega
  have hC : bS < w.heap.size + 1 := by have := hL.s.1; omega
  obtain ⟨B0, hW0, hC0, hB0, hT⟩ := hT
  replace hT := tr_re (hW2 := hW) (hC2 := hC) hT (by omega)
  letI : Shy Wg bS := shyA Shun (Mine Low End) (w.heap.size + 1) Wg bS hW hC hCS
  have hK := kidOk (x := x) (bS := bS) (bO := bO) (bE := bE) (Out := Out) (End := End) (Wg := Wg) (Low := Low)
  obtain ⟨m, hG⟩ := calRound (bS := bS) hk x y hL (ok_read _ hShO (show bO < _ by have := hL.o.1; omega)) cs w (fun a wr sy ha hn => ok_own a wr sy ha (hSh a (by omega)) (by omega)) ok_noRoom hKR.o hLow slv cnt xs hown hcnt n J hn
  obtain ⟨N1, gs1, a1, b1, w2, sl1, T1, s1, q1, mk1, d1, sl1', r1, hB1, hT1, hk1, ho1, ⟨d, slv', wA, hrun, hat, hrow, hgrow, hrecv⟩, hst1⟩ :=
    talk_run (fun _ _ _ h => h.dk) hK hL.out.1 hL.end_.1 (fun g w h => by obtain ⟨_, _, _, _, _, _, _, h⟩ := h; exact h.1) _ m mk gs _ b w sl T s q _ (Nat.le_refl _) hB hT hkid ho hG
  obtain ⟨N2, gs2, b2, w3, sl2, T2, s2, q2, mk2, J2, r2, hB2, hT2, hk2, ho2, hA⟩ := recvHead (hW := hW) (hC := hC) (by have := hL.out.1; omega) hL hCS hB1 hT1 (fun _ _ _ h => h.dk) hk1 ho1 hst1 hrecv
  obtain ⟨τ, w1', hr1, hS1⟩ := app_both hre tab hBok hS hbase hLow hown hcnt hrun
  obtain ⟨d3, hat⟩ := hat
  obtain ⟨e, e1, e2, e3⟩ := at_eq (w1 := wA) (w2 := w2) (d2 := d1) (d3 := d3) hat
  have hS2 : Sh V Bad w1' w2 := by
    have := sh_draw hS1 (w' := w2) (τ := w1'.tape) (d := w1'.drawn) e e2 e3
    exact this
  obtain ⟨⟨so, ro, co⟩, se, re, ce⟩ := id ho2
  have hS3 := sh_aside hS2 hA hbO hn0 ⟨_, co, .inr ⟨_, _, _, _, _, _, rfl⟩⟩
  have hlow : ∀ j, j < Low → j ≠ Out → w3.heap[j]? = w.heap[j]? := fun j hj hne => by
    rw [hA.block j hne, e]
    refine (hgrow.block j (by show j < (w.heap.push _).size; simp; omega) (fun he => ?_)).trans (Below.heap_alloc w _ j (by omega))
    rcases hown.2 with ⟨rfl, _⟩ | ⟨g, cap, cur, rfl, hb, _⟩
    · simp [Value.ownBlock] at he
    · simp only [Value.ownBlock, Option.some.injEq] at he
      omega
  have hgr : w.heap.size + 1 ≤ w3.heap.size := by
    rw [hA.size, e]
    exact Nat.le_trans (by show w.heap.size + 1 ≤ (w.heap.push _).size; simp) hgrow.size
  refine ⟨N1 + N2, gs2, b2, w3, sl2, T2, s2, q2, mk2, J2, slv', w1', τ, ConcX.runNT_trans r1 r2, hB2, ⟨_, hW, hC, hgr, hT2⟩, hk2, ho2, ?_, ?_, ?_, hr1, hS3, hlow⟩
  · exact ⟨(World.cell?_of_block (hlow bS hL.s.1 hL.s.2.1)).trans hKR.s, (World.cell?_of_block (hlow bO hL.o.1 hL.o.2.1)).trans hKR.o, (World.cell?_of_block (hlow bE hL.e.1 hL.e.2.1)).trans hKR.e⟩
  · rw [hA.size, e]
    exact Nat.le_trans hLow (Nat.le_trans (by show w.heap.size ≤ (w.heap.push _).size; simp) hgrow.size)
  · refine ⟨hrow.1, hrow.2.imp id ?_⟩
    rintro ⟨g, cap, cur, h1, h2, h3, h4⟩
    have hgo : g ≠ Out := by have := hL.out.1; omega
    exact ⟨g, cap, cur, h1, h2, by rw [hA.block g hgo, e]; exact h3, h4⟩
end Go.Proofs.YtnikgcedifdaeaaGreatDoor.Up
end

section
/- All rounds of the talk. -/
set_option linter.unusedSectionVars false
set_option linter.unusedVariables false
set_option linter.unusedSimpArgs false
namespace Go.Proofs.YtnikgcedifdaeaaGreatDoor.Up
open Go Go.Conc Go.ConcX Go.RowKit Go.Conc.Lib Go.ConcX.Gen Go.Proofs.YtnikgcedifdaeaaGreatDoor.Lift
/-- The two at the loop's head, the shadow's world beside. -/
def MidSt (V : Env) (Bad : Nat → Prop) (Shun : Loc → Prop) (Wg bS bO bE Out End Low c p : Nat) (t₀ : Trace) (hCS : ∀ a : Addr, a.block = bS → ¬ Shun (.cell a)) (k : CallKind) (x y : Int) (cs : List Frame) (n : Int) (cnt : Nat) (slv : Value) (w1 : World) (gs : Array Goroutine) (w : World) (T : Trace) : Prop :=
  ∃ b s q mk J xs, Big Tryz.prog c gs (gHead k x y bS bO bE Wg Out End cs slv n J) b T q ∧ TrA Shun Wg bS Low End c p t₀ hCS w.heap.size s T ∧
    Kid Tryz.prog Dq Wg Low Out End (.int .i64 0) (.agg #[]) .select (Sel bS bO bE Out End Wg x) mk (.int .i64 (IntKind.i64.wrap (n + 7))) b w ∧ Lift.Open Out End w ∧ KR bS bO bE Out End x w ∧ Low ≤ w.heap.size ∧
    w.ownsRow Low 3 1 slv cnt xs ∧ Sh V Bad w1 w ∧ WgAt 148 Wg w KK 0 ∧ Full bS [.int .i64 x] w
theorem sh_on0 {V : Env} {Bad : Nat → Prop} {w1 w : World} (h : Sh V Bad w1 w) (τ : Tape) (d : Nat) : Sh V Bad (on w1 τ d) w := sh_draw h rfl rfl rfl
theorem midLoop {V : Env} {Done : Goroutine → World → Prop} {Bad : Nat → Prop} {Shun : Loc → Prop} {Wg bS bO bE Out End Low c p : Nat} {t₀ : Trace} (hL : Lay bS bO bE Out End Wg Low) (hCS : ∀ a : Addr, a.block = bS → ¬ Shun (.cell a)) {k : CallKind} (hk : k = .normal ∨ k = .deferred) {x y : Int} {cs cs1 : List Frame}
    (hnd : ∀ g w, g.frame.fn = fU → ¬ Done g w) (hre : V.re = Tryz.prog) (tab : Tab V) (hBok : ∀ i, V.ok i → ¬ Bad i) (hbase : ∀ g, Low ≤ g → ¬ Bad g) (hbO : Bad Out) (hn0 : V.n0 ≤ Out) (hSh : ∀ a : Addr, bS ≤ a.block → ¬ Shun (.cell a)) (hShO : ¬ Shun (.cell ⟨bO, 0, none⟩)) (hSl : bS ≤ Low) (hy : y ≤ 1073741824)
    (hexit : ∀ n cnt slv w1 gs w sl T J, MidSt V Bad Shun Wg bS bO bE Out End Low c p t₀ hCS k x y cs n cnt slv w1 gs w T → ¬ n ≤ y → Concl V Done (gLoop k x y slv n J cs1) w1 (crowd gs w sl) T) :
    ∀ (F : Nat) n cnt slv w1 gs w sl T J, -1073741824 ≤ n → cnt + F < 1000000000 → y - n < 7 * (F : Int) → MidSt V Bad Shun Wg bS bO bE Out End Low c p t₀ hCS k x y cs n cnt slv w1 gs w T → Concl V Done (gLoop k x y slv n J cs1) w1 (crowd gs w sl) T := by
  intro F
  induction F with
  | zero =>
    intro n cnt slv w1 gs w sl T J h0 _ hF hM
    exact hexit n cnt slv w1 gs w sl T J hM (by omega)
  | succ F ih =>
    intro n cnt slv w1 gs w sl T J h0 hc hF hM
    by_cases hn : n ≤ y
    · obtain ⟨b, s, q, mk, J0, xs, hB, hT, hkid, ho, hKR, hLow, hown, hS, hWg, hFull⟩ := hM
      obtain ⟨N, gs', b', w', sl2, T', s', q', mk', J', slv', w1', τ, hr, hB', hT', hk', ho', hKR', hLow', hown', happ, hS', hlow⟩ :=
        midRound hL hCS hk hre tab hBok hbase hbO hn0 hSh hShO hSl hB hT hkid ho hKR hLow hown (by omega) hS hn (sl := sl)
      have e7 : IntKind.i64.wrap (n + 7) = n + 7 := by rw [IntKind.wrap_i64]; omega
      refine Concl.run (N := N) (M' := crowd gs' w' sl2) (T' := T') (by rw [hre]; exact hr) ?_
      refine stubRound hnd hk slv J hn cs1 w1 _ _ (tab.tables.trans (by rw [hre])) τ slv' w1' happ (fun J2 => ?_)
      rw [e7] at hB' hk' ⊢
      exact ih (n + 7) (cnt + 1) slv' (on w1' T0 0) gs' w' sl2 T' J2 (by omega) (by omega) (by omega) ⟨b', s', q', mk', J', _, hB', hT', hk', ho', hKR', hLow', hown', sh_on0 hS' _ _, (hlow Wg hL.wg (Ne.symm hL.out.2.2.1)).trans hWg, fun _ => (hlow bS hL.s.1 hL.s.2.1).trans (hFull rfl)⟩
    · exact hexit n cnt slv w1 gs w sl T J hM hn
end Go.Proofs.YtnikgcedifdaeaaGreatDoor.Up
end

section
/- The closing: the child lags; the trace under the bounded instance. -/
set_option linter.unusedSectionVars false
set_option linter.unusedVariables false
set_option linter.unusedSimpArgs false
namespace Go.Proofs.YtnikgcedifdaeaaGreatDoor.Up
open Go Go.Conc Go.ConcX Go.RowKit Go.Proofs.YtnikgcedifdaeaaGreatDoor.Lift
section
variable {P : Program} {M : Loc → Prop} {Wg C : Nat} [Shy Wg C] {Low Out End : Nat} {zs ze : Value} {sh : CommShape} {S : Value → Goroutine → Prop} {nx : Value → Value}
theorem lags_of_kid (hK : KidOk P Wg Low Out End zs ze sh S nx) {mk : Nat} {v : Value} {b a a' : Goroutine} {w w' : World} (h : Kid P Dq Wg Low Out End zs ze sh S mk v b w) (hr : RK Low Out End Wg w w') (hm : mayWake P a = true) (ha : a'.status = .running)
    {s r : Nat} (hc : w'.heap[End]? = some (.chan 0 #[] true s r false)) : ∃ mk', Lags P Wg Low Out End zs ze sh S mk' v (woken P a a' w' b) w' := by
  rcases h with ⟨m, rfl, hg⟩ | ⟨_, g, hs, rfl⟩
  · refine ⟨m + 1, .inl ⟨m, rfl, ?_⟩⟩
    rw [woken_run (hg.running (fun g _ x => hK.run _ _ x) w (fun _ _ _ _ _ => rfl))]
    exact Goes.rely (R := RK Low Out End Wg) (fun _ _ _ h1 h2 => RK.trans h1 h2) hg hr
  · refine ⟨0, .inr ⟨rfl, g, hs, ?_⟩⟩
    unfold woken
    rw [hm, ha]
    exact again_some_closed (k := 1) (z := ze) rfl hc
end
/-- What the closing lists. -/
theorem ev0_close {Wg bS Low End : Nat} [Shy Wg bS] (hE : End ≠ bS) (h1 : Shy.ok Wg bS (.access ⟨.obj End, false, true⟩)) (h2 : Shy.ok Wg bS (.close End)) : ∀ e ∈ closeEvents End, EvQ (Mine Low End) Wg bS 0 e := by
  intro e he
  simp only [closeEvents, List.mem_toArray, List.mem_cons, List.not_mem_nil, or_false] at he
  rcases he with rfl | rfl
  · refine ⟨fun fn pos => ⟨rfl, fun y hy => ?_, by simp [MemAct.ofEvent], h1⟩, by simp, by simp, by simp⟩
    simp only [MemAct.ofEvent, MemAct.touch?, Option.some.injEq] at hy
    subst hy
    refine ⟨.inr (.inl ⟨rfl, fun e => by cases e⟩), fun hs => ⟨by simp, by simp⟩, fun ⟨y, hy, _⟩ => by cases hy⟩
  · exact ⟨fun fn pos => okOp_still rfl (by simp [MemAct.ofEvent]) h2, by simp, by simp, by simp⟩
/-- The trace's law and the group's block, from the talk's instance to the bounded one. -/
theorem base_of_tr {Shun : Loc → Prop} {Wg bS Low End c p B' : Nat} {t₀ s T : Trace} {B : Nat} {hW0 : Wg < B} {hC0 : bS < B} {hCS : ∀ a : Addr, a.block = bS → ¬ Shun (.cell a)} {stop : Goroutine → World → Prop} {hW : Wg < B'} {hC : bS < B'} {x : Int} {w : World}
    (h : @Tr (Mine Low End) Wg bS (shyA Shun (Mine Low End) B Wg bS hW0 hC0 hCS) c t₀ s T p) (low : B ≤ B') (hwg : WgAt 148 Wg w KK 0) :
    @Base (inferInstance : Payload) (Mine Low End) 148 Wg bS 1 (shyB Shun (Mine Low End) B' Wg bS stop hW hC hCS) KK 0 #[.int .i64 x] false 1 0 0 0 false w s p := by
  obtain ⟨lk, jt, d0, d1, na⟩ := h
  have ok := @JT.oks (Mine Low End) Wg bS (shyA Shun (Mine Low End) B Wg bS hW0 hC0 hCS) s p jt
  have hj : @JT (Mine Low End) Wg bS (shyB Shun (Mine Low End) B' Wg bS stop hW hC hCS) s p := jt_re (I1 := shyA Shun (Mine Low End) B Wg bS hW0 hC0 hCS) (I2 := shyB Shun (Mine Low End) B' Wg bS stop hW hC hCS) jt fun op hop => ⟨(ok op hop).1, MemAct.low_mono low (ok op hop).2⟩
  clear jt ok lk
  exact @Base.mk _ (Mine Low End) 148 Wg bS 1 (shyB Shun (Mine Low End) B' Wg bS stop hW hC hCS) KK 0 #[.int .i64 x] false 1 0 0 0 false w s p hwg (fun e => by cases e) hj d0 d1 (fun _ => na) (fun e => by cases e)
end Go.Proofs.YtnikgcedifdaeaaGreatDoor.Up
end

section
/- The shunned places grow by a WaitGroup's. -/
namespace Go.Proofs.YtnikgcedifdaeaaGreatDoor.Lift
open Go Go.Conc
theorem past_weaken {S S' : Loc → Prop} {B : Nat} {t : Trace} (h : Past S B t) (hs : ∀ l, S l → S' l) : Past S' B t :=
  ⟨h.clean, fun i a ha hm => (h.known i a ha hm).imp id fun x => ⟨hs _ x.1, x.2⟩, h.over, h.hears, h.seen⟩
end Go.Proofs.YtnikgcedifdaeaaGreatDoor.Lift
end

section
/- Out of the loop: the closing, and Wait. -/
set_option linter.unusedSectionVars false
set_option linter.unusedVariables false
set_option linter.unusedSimpArgs false
namespace Go.Proofs.YtnikgcedifdaeaaGreatDoor.Up
open Go Go.Conc Go.ConcX Go.RowKit Go.Conc.Lib Go.ConcX.Gen Go.Proofs.YtnikgcedifdaeaaGreatDoor.Lift
open Go.ConcN (sumTo)
theorem aside_set (w : World) (c : Nat) (cap : Nat) (buf : Array Value) (cl : Bool) (s r : Nat) (tm : Bool) : Aside c w (w.setChan c cap buf cl s r tm) := by
  refine ⟨rfl, rfl, rfl, ?_, fun k hk => ?_⟩
  · show (w.heap.setIfInBounds c _).size = _
    simp
  · rw [Lift.heap_setChan, if_neg hk]
/-- The caller closes the channel; the child lags. -/
theorem upClose {Shun : Loc → Prop} {Wg bS bO bE Out End Low c p : Nat} {t₀ : Trace} (hL : Lay bS bO bE Out End Wg Low) (hCS : ∀ a : Addr, a.block = bS → ¬ Shun (.cell a)) {k : CallKind} (hk : k = .normal ∨ k = .deferred) {x y : Int} {cs : List Frame} {slv : Value}
    (hShE : ¬ Shun (.cell ⟨bE, 0, none⟩)) {mk : Nat} {gs : Array Goroutine} {b : Goroutine} {w : World} {sl : Option (Nat × Nat)} {T s : Trace} {q : Nat → Nat} {n : Int} {v : Value} {J : Nat → Value} (hB : Big Tryz.prog c gs (gHead k x y bS bO bE Wg Out End cs slv n J) b T q) (hT : TrA Shun Wg bS Low End c p t₀ hCS w.heap.size s T)
    (hkid : Kid Tryz.prog Dq Wg Low Out End (.int .i64 0) (.agg #[]) .select (Sel bS bO bE Out End Wg x) mk v b w) (ho : Lift.Open Out End w) (hKR : KR bS bO bE Out End x w) (hLow : Low ≤ w.heap.size) (hn : ¬ n ≤ y) :
    ∃ N gs' b' wC sl2 T' s' q' mk' J', runNT Tryz.prog N (crowd gs w sl) T = (.next (crowd gs' wC sl2), T') ∧ Big Tryz.prog c gs' (gShut k x y bS bO bE Wg Out End cs slv n J') b' T' q' ∧ TrA Shun Wg bS Low End c p t₀ hCS wC.heap.size s' T' ∧
      Lags Tryz.prog Wg Low Out End (.int .i64 0) (.agg #[]) .select (Sel bS bO bE Out End Wg x) mk' v b' wC ∧ Shut Out End wC ∧ Aside End w wC := by
  have hW : Wg < w.heap.size := by have := hL.wg; omega
  have hC : bS < w.heap.size := by have := hL.s.1; omega
  obtain ⟨B0, hW0, hC0, hB0, hT⟩ := hT
  replace hT := tr_re (hW2 := hW) (hC2 := hC) hT hB0
  letI : Shy Wg bS := shyA Shun (Mine Low End) w.heap.size Wg bS hW hC hCS
  have hK := kidOk (x := x) (bS := bS) (bO := bO) (bE := bE) (Out := Out) (End := End) (Wg := Wg) (Low := Low)
  obtain ⟨m, hG⟩ := calOut (bS := bS) hk x y hL (ok_read _ hShE (show bE < _ by have := hL.e.1; omega)) cs w hKR.e slv n J hn
  obtain ⟨N1, gs1, a1, b1, w2, sl1, T1, s1, q1, mk1, d1, sl1', r1, hB1, hT1, hk1, ho1, ⟨⟨J1, hJ1, ha⟩, hat⟩, hst1⟩ :=
    talk_run (fun _ _ _ h => h.dk) hK hL.out.1 hL.end_.1 (fun g w h => by obtain ⟨⟨_, _, h⟩, _⟩ := h; rw [h]; rfl) _ m mk gs _ b w sl T s q _ (Nat.le_refl _) hB hT hkid ho hG
  subst ha
  obtain ⟨⟨so, ro, co⟩, se, re, ce⟩ := ho1
  obtain ⟨hgo, hmw⟩ := close_step (bS := bS) (bO := bO) (bE := bE) (Wg := Wg) (Out := Out) (x := x) (y := y) (cs := cs) (sl := slv) (n := n) hk hJ1 ce
  have hrunT := runT_crowd_go (P := Tryz.prog) (sl := sl1') (i := 0) hB1.h0 (show stepG Tryz.prog (0 == 0) _ (w2.at d1) = _ from hgo)
  obtain ⟨d3, hat⟩ := hat
  have hA : Aside End w ((w2.at d1).setChan End 0 #[] true se re false) := by
    rw [hat]
    have h1 := aside_set (w.at d3) End 0 #[] true se re false
    exact ⟨h1.tape, h1.os, h1.output, h1.size, h1.block⟩
  have hEs : End < (w2.at d1).heap.size := (Array.getElem?_eq_some_iff.1 ce).1
  have hce : ((w2.at d1).setChan End 0 #[] true se re false).heap[End]? = some (.chan 0 #[] true se re false) := by rw [Lift.heap_setChan, if_pos rfl, if_pos hEs]
  have hco : ((w2.at d1).setChan End 0 #[] true se re false).heap[Out]? = some (.chan 0 #[] false so ro false) := by rw [Lift.heap_setChan, if_neg hL.out.2.1]; exact co
  obtain ⟨mk', hlag⟩ := lags_of_kid (a := gClose k x y bS bO bE Wg Out End cs slv n J1) (a' := gShut k x y bS bO bE Wg Out End cs slv n J1) (w' := (w2.at d1).setChan End 0 #[] true se re false) hK hk1 (fun j _ _ h _ => by rw [Lift.heap_setChan, if_neg h]) hmw rfl hce
  have hEB : End < w.heap.size := by have := hL.end_.1; omega
  have hT2 := hT1.ev0 (big_hc0 hB1) (ev0_close (bS := bS) (Low := Low) hL.end_.2.2 ⟨⟨fun z hz => by
      simp only [MemAct.touch?, Option.some.injEq] at hz
      subst hz
      exact ⟨fun _ => by simp, fun _ => .inr (.inr rfl)⟩, fun k e => by cases e⟩, hEB⟩ ⟨okG_still rfl (by simp), hEB⟩) (gClose k x y bS bO bE Wg Out End cs slv n J1).frame.fn (gClose k x y bS bO bE Wg Out End cs slv n J1).frame.place
  refine ⟨N1 + 1, _, _, _, sl1', _, _, q1, mk', J1, runNT_then r1 (hst1.trans hrunT), big_own0 hB1 rfl _ _ _, ⟨_, hW, hC, Nat.le_of_eq hA.size.symm, hT2⟩, hlag, ⟨⟨_, _, hco⟩, _, _, hce⟩, hA⟩
/-- Where the caller stands behind Wait. -/
def StopB (k : CallKind) (x y : Int) (bS bO bE Wg Out End : Nat) (cs : List Frame) (sl : Value) (n : Int) (J : Nat → Value) (wC : World) (g : Goroutine) (w : World) : Prop :=
  g = gBack k x y bS bO bE Wg Out End cs sl n J ∧ Aside2 bS Wg wC w ∧ WgAt 148 Wg w 0 0 ∧ Full bS [.int .i64 x] w
theorem mine_shT {Wg bS Low End : Nat} (hW : Wg < Low) (hC : bS < Low) (hE : End ≠ bS) (l : Loc) (h : Mine Low End l) : ¬ ShT Wg bS l := by
  intro hs
  rcases h with ⟨a, rfl, ha⟩ | rfl
  · rcases hs with hs | ⟨y, hy, hyb⟩
    · rcases hs with ⟨y, hy, hyb⟩ | hs
      · cases hy; omega
      · cases hs
    · cases hy; omega
  · rcases hs with hs | ⟨y, hy, hyb⟩
    · rcases hs with ⟨y, hy, hyb⟩ | hs
      · cases hy
      · cases hs
        exact hE rfl
    · cases hy
/-- From behind the closing through Wait. -/
theorem upWait {Shun : Loc → Prop} {Wg bS bO bE Out End Low c p B : Nat} {t₀ : Trace} (hL : Lay bS bO bE Out End Wg Low) (hCS : ∀ a : Addr, a.block = bS → ¬ Shun (.cell a)) {k : CallKind} (hk : k = .normal ∨ k = .deferred) {x y : Int} {cs : List Frame} {slv : Value}
    {mk : Nat} {gs : Array Goroutine} {b : Goroutine} {wC : World} {sl : Option (Nat × Nat)} {T s : Trace} {q : Nat → Nat} {n : Int} {v : Value} {J : Nat → Value} (hBig : Big Tryz.prog c gs (gShut k x y bS bO bE Wg Out End cs slv n J) b T q) (hT : TrA Shun Wg bS Low End c p t₀ hCS wC.heap.size s T)
    (hlag : Lags Tryz.prog Wg Low Out End (.int .i64 0) (.agg #[]) .select (Sel bS bO bE Out End Wg x) mk v b wC) (ho : Shut Out End wC) (hLow : Low ≤ wC.heap.size) (hWg : WgAt 148 Wg wC KK 0) (hFull : Full bS [.int .i64 x] wC) (hP : Past Shun B t₀) (hB : B ≤ wC.heap.size) :
    ∃ N gs' w' sl' T' q', runNT Tryz.prog N (crowd gs wC sl) T = (.next (crowd gs' w' sl'), T') ∧ gs'[0]? = some (gBack k x y bS bO bE Wg Out End cs slv n J) ∧ Leavers Tryz.prog T' gs' q' ∧
      Past (fun l => Shun l ∨ OfWg Wg l) wC.heap.size T' ∧ Aside2 bS Wg wC w' ∧ WgAt 148 Wg w' 0 0 ∧ Full bS [.int .i64 x] w' := by
  have hW : Wg < wC.heap.size := by have := hL.wg; omega
  have hC : bS < wC.heap.size := by have := hL.s.1; omega
  have hCW := hL.s.2.2.2
  obtain ⟨B0, hW0, hC0, hB0, hT⟩ := hT
  have hBase := base_of_tr (stop := StopB k x y bS bO bE Wg Out End cs slv n J wC) (hW := hW) (hC := hC) (x := x) hT hB0 hWg
  have hlk : Linked c t₀ s T := by
    obtain ⟨lk, _⟩ := hT
    exact lk
  letI : Shy Wg bS := shyB Shun (Mine Low End) wC.heap.size Wg bS (StopB k x y bS bO bE Wg Out End cs slv n J wC) hW hC hCS
  have hK := kidOk (x := x) (bS := bS) (bO := bO) (bE := bE) (Out := Out) (End := End) (Wg := Wg) (Low := Low)
  have hF := finishes (x := x) hL [.int .i64 x]
  have hAn := calAnch (bS := bS) (Wg := Wg) (Low := Low) (k := k) x y bO bE Out End cs slv n J [.int .i64 x] wC hCW (fun _ _ => True) (fun w h1 h2 h3 => ⟨rfl, h1, h2, h3⟩)
  have hAr : ∀ g w, AnchW7 link (Aside2 bS Wg wC) Wg bS [.int .i64 x] ((bU k).at ⟨TH x y bS bO bE Wg Out End slv n J, []⟩ (.inRegion ops11 (0 :: []) :: [.code c12])) cs g w → g.status = .running := by
    rintro g w ⟨T, e, _⟩
    rw [e]
    rfl
  have hcal := calWait (bS := bS) (Wg := Wg) (Low := Low) hk x y bO bE Out End cs slv n J [.int .i64 x] wC wC ⟨⟨rfl, rfl, rfl, rfl, fun _ _ _ => rfl⟩, .inl hWg⟩
  obtain ⟨N1, M1, T1, μ1, r1, hg⟩ := lag (P := Tryz.prog) (Post := fun _ _ => True) hK hF hL.wg hL.s.1 hCW hL.out.1 hL.end_.1 hL.out.2.2.1 hL.end_.2.1 ⟨okG_still rfl (by simp), show End < _ by have := hL.end_.1; omega⟩ hAr hAn (sumTo c q + mk, (4 + 2, 7)) mk 0 KK gs _ b wC sl T s q v rfl hBig hlk hBase (.a (.kd hcal)) hlag ho hFull
  obtain ⟨N2, M2, T2, r2, hd⟩ := ghost_runs hL.wg hL.s.1 hCW hAr hAn _ _ _ hg
  obtain ⟨N3, gs3, a3, w3, sl3, T3, q3, r3, hs3, h03, hrun3, hstop3, hLv3, hP3⟩ := wind (Shun := Shun) (B := B) (B' := wC.heap.size) (fun act h => h) (mine_shT hL.wg hL.s.1 hL.end_.2.2) hP hB hd
  obtain ⟨rfl, h1, h2, h3⟩ := hstop3
  exact ⟨N1 + (N2 + N3), gs3, w3, sl3, T3, q3, ConcX.runNT_trans r1 (ConcX.runNT_trans r2 r3), h03, hLv3, hP3, h1, h2, h3⟩
end Go.Proofs.YtnikgcedifdaeaaGreatDoor.Up
end

section
/- The phase of sabbath.upto: the true company run beside the shadow's stub. -/
set_option linter.unusedSectionVars false
set_option linter.unusedVariables false
set_option linter.unusedSimpArgs false
namespace Go.Proofs.YtnikgcedifdaeaaGreatDoor.Up
open Go Go.Conc Go.ConcX Go.RowKit Go.Conc.Lib Go.ConcX.Gen Go.Proofs.YtnikgcedifdaeaaGreatDoor.Lift
open Go.ConcN (sumTo)
theorem aside_wg {bS Wg : Nat} {vals : List Value} {wC w' : World} (h : Aside2 bS Wg wC w') (hf : Full bS vals wC) (hf' : Full bS vals w') : Aside Wg wC w' :=
  ⟨h.tape, h.os, h.output, h.size, fun j hj => if e : j = bS then by subst e; rw [hf rfl, hf' rfl] else h.block j e hj⟩
section
variable {V : Env} {Done : Goroutine → World → Prop} {Bad : Nat → Prop}
/-- From behind Wait to the mate behind the return. -/
theorem upBack (hnd : ∀ g w, g.frame.fn = fU → ¬ Done g w) (hre : V.re = Tryz.prog) (hstub : V.sh.funcs[fU]? = some stubF) (hBok : (∀ i, V.ok i → ¬ Bad i) ∧ ∀ i, V.bad0 i → Bad i) {k : CallKind} (hk : k = .normal ∨ k = .deferred) {x y : Int} {bS bO bE Wg Out End : Nat} {cs : List Frame} (hcs : ∀ c ∈ cs, FrameOk V c) {slv : Value} {n : Int} {J : Nat → Value}
    {gs : Array Goroutine} {w w1 : World} {sl : Option (Nat × Nat)} {T : Trace} {q : Nat → Nat} (h0 : gs[0]? = some (gBack k x y bS bO bE Wg Out End cs slv n J)) (hL : Leavers Tryz.prog T gs q) (hP : Past (BadLoc V.n0 Bad) w.heap.size T) (hS : Sh V Bad w1 w) (hbig : V.n0 ≤ w.heap.size)
    {T4 : Array Value} (h4 : T4[4]? = some slv) : Concl V Done (gRet k T4 (cs ++ [bot V.sh])) w1 (crowd gs w sl) T := by
  intro hF
  obtain ⟨m, hG⟩ := calEnd (Shun := BadLoc V.n0 Bad) (B := w.heap.size) hk x y bS bO bE Wg Out End cs slv n J w
  obtain ⟨N1, gs1, a1, w2, sl1, T1, q1, r1, z1, h01, ⟨⟨TT, _, hT4, ha⟩, hat⟩, hL1, hP1⟩ := walk_beside (P := Tryz.prog) (fun _ _ _ h => h) _ m gs _ w sl T q (Nat.le_refl _) h0 hL hP hG
  subst ha
  have hfU : Tryz.prog.funcs[fU]? = some Tryz.f78 := Tryz.func78
  cases cs with
  | nil =>
    exfalso
    obtain ⟨c', hret, _⟩ := ret_step hk slv (bot V.sh)
    have hs := hret V.sh stubF hstub rfl T4 (on w1 T0 0) [] h4
    cases hF with
    | stop hd => exact hnd _ _ rfl hd
    | step G' W E hgo hov hfin =>
      have h1 := hgo T0
      have h2 : stepG V.sh true (gRet k T4 [bot V.sh]) (on w1 T0 0) = .go (G' T0) (W T0) (E T0) := h1
      rw [hs] at h2
      obtain ⟨_, _, cs', hcs'⟩ := hov T0
      injection h2 with h3
      rw [← h3] at hcs'
      have := congrArg List.length hcs'
      simp [G] at this
  | cons cc r =>
    obtain ⟨c', hret, hfo⟩ := ret_step hk slv cc
    have hG2 : Goes Tryz.prog true AtRel (DE (EvL (BadLoc V.n0 Bad) w.heap.size)) (fun g w' => g = G c' r ∧ AtRel w2 w') 1 (gRet k TT (cc :: r)) w2 := by
      refine Goes.step rfl fun w₁ h₁ => ?_
      rw [hret Tryz.prog _ hfU rfl TT w₁ r hT4]
      simp only [goes_go]
      exact ⟨fun e he => by simp at he, Goes.stop fun w₂ h₂ => ⟨rfl, atRel_trans _ _ _ h₁ h₂⟩⟩
    obtain ⟨N2, gs2, a2, w3, sl2, T2, q2, r2, z2, h02, ⟨ha2, hat2⟩, hL2, hP2⟩ := walk_beside (P := Tryz.prog) (fun _ _ _ h => h) _ 1 gs1 _ w2 sl1 T1 q1 (Nat.le_refl _) h01 hL1 hP1 hG2
    subst ha2
    obtain ⟨d1, rfl⟩ := hat
    obtain ⟨d2, rfl⟩ := hat2
    have hs := hret V.sh stubF hstub rfl T4 (on w1 T0 0) (r ++ [bot V.sh]) h4
    refine ⟨N1 + N2, gs2, (w.at d1).at d2, sl2, T2, q2, G c' (r ++ [bot V.sh]), on w1 T0 0, ?_, .step (τ := T0) (hnd _ _ rfl) hs .refl, ⟨⟨Bad, c', r, hBok, sh_draw hS rfl rfl rfl, hP2, hfo V (hcs cc (by simp)), fun c hc => hcs c (by simp [hc]), rfl, h02⟩, by rw [hre]; exact hL2, hbig⟩⟩
    rw [hre]
    exact ConcX.runNT_trans r1 r2
theorem upExit {Bad0 : Nat → Prop} {Wg bS bO bE Out End Low c p B0 : Nat} {t₀ : Trace} (hL : Lay bS bO bE Out End Wg Low) (hCS : ∀ a : Addr, a.block = bS → ¬ BadLoc V.n0 Bad0 (.cell a)) {k : CallKind} (hk : k = .normal ∨ k = .deferred) {x y : Int} {cs : List Frame} (hcs : ∀ c ∈ cs, FrameOk V c)
    (hnd : ∀ g w, g.frame.fn = fU → ¬ Done g w) (hre : V.re = Tryz.prog) (hstub : V.sh.funcs[fU]? = some stubF) (hBok : (∀ i, V.ok i → ¬ Bad i) ∧ ∀ i, V.bad0 i → Bad i) (hbW : Bad Wg ∧ V.n0 ≤ Wg) (hbE : Bad End ∧ V.n0 ≤ End) (hShE : ¬ BadLoc V.n0 Bad0 (.cell ⟨bE, 0, none⟩)) (hBB : ∀ i, Bad0 i → Bad i)
    (hP : Past (BadLoc V.n0 Bad0) B0 t₀) (hB0 : B0 ≤ Low) (hbig : V.n0 ≤ Low)
    {n : Int} {cnt : Nat} {slv : Value} {w1 : World} {gs : Array Goroutine} {w : World} {sl : Option (Nat × Nat)} {T : Trace} {J1 : Nat → Value} (hM : MidSt V Bad (BadLoc V.n0 Bad0) Wg bS bO bE Out End Low c p t₀ hCS k x y cs n cnt slv w1 gs w T) (hn : ¬ n ≤ y) :
    Concl V Done (gLoop k x y slv n J1 (cs ++ [bot V.sh])) w1 (crowd gs w sl) T := by
  obtain ⟨b, s, q, mk, J0, xs, hB, hT, hkid, ho, hKR, hLow, hown, hS, hWg, hFull⟩ := hM
  obtain ⟨N1, gs1, b1, wC, sl1, T1, s1, q1, mk1, J2, r1, hB1, hT1, hlag, hsh, hA⟩ := upClose hL hCS hk hShE hB hT hkid ho hKR hLow hn (sl := sl)
  have hsz := hA.size
  have hWg1 : WgAt 148 Wg wC KK 0 := (hA.block Wg (Ne.symm hL.end_.2.1)).trans hWg
  have hFull1 : Full bS [.int .i64 x] wC := fun _ => (hA.block bS (Ne.symm hL.end_.2.2)).trans (hFull rfl)
  obtain ⟨N2, gs2, w', sl2, T2, q2, r2, h02, hLv, hP2, hA2, hWg2, hFull2⟩ := upWait hL hCS hk hB1 hT1 hlag hsh (by omega) hWg1 hFull1 hP (by omega) (sl := sl1)
  obtain ⟨_, se, re, ce⟩ := id hsh
  have hS1 := sh_aside hS hA hbE.1 hbE.2 ⟨_, ce, .inr ⟨_, _, _, _, _, _, rfl⟩⟩
  have hS2 := sh_aside hS1 (aside_wg hA2 hFull1 hFull2) hbW.1 hbW.2 ⟨_, hWg2, .inl ⟨_, _, rfl⟩⟩
  have hsz2 := hA2.size
  have hP3 : Past (BadLoc V.n0 Bad) w'.heap.size T2 := by
    rw [hsz2]
    refine past_weaken hP2 fun l hl => ?_
    rcases hl with hl | ⟨a, rfl, ha⟩
    · cases l with
      | cell a => exact ⟨hl.1, hBB _ hl.2⟩
      | obj r => exact ⟨hl.1, hBB _ hl.2⟩
      | _ => exact hl.elim
    · exact ⟨by rw [ha]; exact hbW.2, by rw [ha]; exact hbW.1⟩
  refine Concl.run (N := N1 + N2) (M' := crowd gs2 w' sl2) (T' := T2) (by rw [hre]; exact ConcX.runNT_trans r1 r2) ?_
  refine stubOut hnd hk slv J1 hn _ w1 _ _ fun J' => ?_
  exact upBack hnd hre hstub hBok hk hcs h02 hLv hP3 (sh_on0 hS2 T0 0) (by omega) rfl
end
theorem pig : ∀ (n : Nat) (l : List Nat), l.Nodup → (∀ x ∈ l, x < n) → l.length ≤ n
  | 0, l, _, h => by
    cases l with
    | nil => simp
    | cons a l =>
      have := h a (by simp)
      omega
  | n + 1, l, hn, h => by
    have := pig n (l.erase n) (hn.erase n) (fun x hx => by
      have h1 := hn.mem_erase_iff.1 hx
      have := h x h1.2
      have := h1.1
      omega)
    rw [List.length_erase] at this
    split at this <;> omega
theorem sub_ne {N a b : Nat} (ha : N ≤ a ∧ a < N + 6) (hb : N ≤ b ∧ b < N + 6) (h : a ≠ b) : a - N ≠ b - N := by omega
theorem sub_lt6 {N a : Nat} (ha : N ≤ a ∧ a < N + 6) : a - N < 6 := by omega
theorem six_of {N a b c d e f i : Nat} (ha : N ≤ a ∧ a < N + 6) (hb : N ≤ b ∧ b < N + 6) (hc : N ≤ c ∧ c < N + 6) (hd : N ≤ d ∧ d < N + 6) (he : N ≤ e ∧ e < N + 6) (hf : N ≤ f ∧ f < N + 6) (hi : N ≤ i ∧ i < N + 6)
    (h1 : a ≠ b ∧ a ≠ c ∧ a ≠ d ∧ a ≠ e ∧ a ≠ f) (h2 : b ≠ c ∧ b ≠ d ∧ b ≠ e ∧ b ≠ f) (h3 : c ≠ d ∧ c ≠ e ∧ c ≠ f) (h4 : d ≠ e ∧ d ≠ f) (h5 : e ≠ f) : i = a ∨ i = b ∨ i = c ∨ i = d ∨ i = e ∨ i = f := by
  refine Classical.byContradiction fun hn => ?_
  simp only [not_or] at hn
  have := pig 6 [i - N, a - N, b - N, c - N, d - N, e - N, f - N] (by
    simp only [List.nodup_cons, List.mem_cons, List.not_mem_nil, or_false, not_or, not_false_eq_true, List.nodup_nil, and_true]
    exact ⟨⟨sub_ne hi ha hn.1, sub_ne hi hb hn.2.1, sub_ne hi hc hn.2.2.1, sub_ne hi hd hn.2.2.2.1, sub_ne hi he hn.2.2.2.2.1, sub_ne hi hf hn.2.2.2.2.2⟩, ⟨sub_ne ha hb h1.1, sub_ne ha hc h1.2.1, sub_ne ha hd h1.2.2.1, sub_ne ha he h1.2.2.2.1, sub_ne ha hf h1.2.2.2.2⟩,
      ⟨sub_ne hb hc h2.1, sub_ne hb hd h2.2.1, sub_ne hb he h2.2.2.1, sub_ne hb hf h2.2.2.2⟩, ⟨sub_ne hc hd h3.1, sub_ne hc he h3.2.1, sub_ne hc hf h3.2.2⟩, ⟨sub_ne hd he h4.1, sub_ne hd hf h4.2⟩, sub_ne he hf h5⟩) (by
    intro z hz
    simp only [List.mem_cons, List.not_mem_nil, or_false] at hz
    rcases hz with rfl | rfl | rfl | rfl | rfl | rfl | rfl
    · exact sub_lt6 hi
    · exact sub_lt6 ha
    · exact sub_lt6 hb
    · exact sub_lt6 hc
    · exact sub_lt6 hd
    · exact sub_lt6 he
    · exact sub_lt6 hf)
  simp at this
end Go.Proofs.YtnikgcedifdaeaaGreatDoor.Up
end

section
/- THE PHASE of sabbath.upto. -/
set_option linter.unusedSectionVars false
set_option linter.unusedVariables false
set_option linter.unusedSimpArgs false
namespace Go.Proofs.YtnikgcedifdaeaaGreatDoor.Up
open Go Go.Conc Go.ConcX Go.RowKit Go.Conc.Lib Go.ConcX.Gen Go.Proofs.YtnikgcedifdaeaaGreatDoor.Lift
open Go.ConcN (sumTo)
theorem wgAt_set {Wg : Nat} {w : World} (h : WgAt 148 Wg w 0 0) : WgAt 148 Wg (w.setCell (stA Wg) (.int .u64 KK)) KK 0 := by
  have hlt : Wg < w.heap.size := (Array.getElem?_eq_some_iff.1 h).1
  unfold WgAt at h ⊢
  simp only [World.setCell, stA, Array.getElem?_modify, h]
  simp [wgBlock]
theorem wf_range {x : Int} (h0 : -1073741824 ≤ x) (h1 : x ≤ 1073741824) : -1073741824 ≤ wf x ∧ wf x ≤ 1073741830 := by
  have hb : 0 ≤ br (IntKind.i64.wrap (6 - x)) ∧ br (IntKind.i64.wrap (6 - x)) ≤ 6 := by
    generalize IntKind.i64.wrap (6 - x) = r
    have l1 : r.tmod 7 < 7 := Int.tmod_lt_of_pos _ (by decide)
    have l2 : -7 < r.tmod 7 := Int.lt_tmod_of_pos _ (by decide)
    unfold br
    split
    · rw [IntKind.wrap_i64]; omega
    · omega
  unfold wf
  rw [IntKind.wrap_i64]
  omega
theorem enter_args (args : Array Value) : 28 ≤ (args ++ Array.replicate (28 - args.size) undef).size := by simp; omega
section
variable {V : Env}
/-- Six hollow blocks beside the six true ones. -/
theorem sh_six {Bad : Nat → Prop} {w1 w2 wf : World} {x : Int} {bS bO bE Wg Out End : Nat} (hS : Sh V Bad w1 w2) (hstrict : V.strict = false) (hbig : V.n0 ≤ w2.heap.size) (hold : ∀ i, Bad i → i < w2.heap.size) (hsz : wf.heap.size = w2.heap.size + 6) (hlow : ∀ i, i < w2.heap.size → wf.heap[i]? = w2.heap[i]?) (hos : wf.os = w2.os) (hout : wf.output = w2.output)
    (hL : Lay bS bO bE Out End Wg (w2.heap.size + 6)) (hnew : w2.heap.size ≤ bS ∧ w2.heap.size ≤ bO ∧ w2.heap.size ≤ bE ∧ w2.heap.size ≤ Wg ∧ w2.heap.size ≤ Out ∧ w2.heap.size ≤ End ∧ bO ≠ bE)
    (h : ∀ i, i = bS ∨ i = bO ∨ i = bE ∨ i = Wg ∨ i = Out ∨ i = End → ∃ o, wf.heap[i]? = some o ∧ Bare o) :
    Sh V (fun i => Bad i ∨ (w2.heap.size ≤ i ∧ i < w2.heap.size + 6)) (six w1) wf := by
  have e1 := hS.size
  have h6 : (six w1).heap.size = w1.heap.size + 6 := by simp only [six, heap_al, Array.size_push]
  have hlow1 : ∀ i, i < w1.heap.size → (six w1).heap[i]? = w1.heap[i]? := fun i hi => by
    simp only [six, heap_al, Array.getElem?_push, Array.size_push]
    repeat rw [if_neg (by omega)]
  have hhol : ∀ i, w1.heap.size ≤ i → i < w1.heap.size + 6 → (six w1).heap[i]? = some hollow := fun i h1 h2 => by
    simp only [six, heap_al, Array.getElem?_push, Array.size_push]
    repeat' split
    all_goals first | rfl | (exfalso; omega)
  refine ⟨hS.tab, by omega, fun i hi => ?_, fun i hi => ?_, fun i hi => ?_, hos.trans hS.os, hout.trans hS.output, fun i o ho => ?_, fun hst => (by rw [hstrict] at hst; cases hst), fun i h1 h2 => ?_, fun i h1 h2 => ?_⟩
  · by_cases hlt : i < w2.heap.size
    · rw [hlow i hlt, hlow1 i (by omega)]
      exact hS.same i fun hb => hi (.inl hb)
    · have : w2.heap.size + 6 ≤ i := by
        by_cases h2 : i < w2.heap.size + 6
        · exact absurd (.inr ⟨by omega, h2⟩) hi
        · omega
      left
      rw [Array.getElem?_eq_none (by omega), Array.getElem?_eq_none (by omega)]
  · rcases hi with hi | hi
    · rw [hlow1 i (by have := hold i hi; omega)]
      exact hS.poison i hi
    · exact hhol i (by omega) (by omega)
  · rcases hi with hi | hi
    · rw [hlow i (hold i hi)]
      exact hS.real i hi
    · exact .inl ⟨by omega, h i (six_of (N := w2.heap.size) ⟨hnew.1, hL.s.1⟩ ⟨hnew.2.1, hL.o.1⟩ ⟨hnew.2.2.1, hL.e.1⟩ ⟨hnew.2.2.2.1, hL.wg⟩ ⟨hnew.2.2.2.2.1, hL.out.1⟩ ⟨hnew.2.2.2.2.2.1, hL.end_.1⟩ hi
        ⟨Ne.symm hL.o.2.2.2.2, Ne.symm hL.e.2.2.2.2, hL.s.2.2.2, hL.s.2.1, hL.s.2.2.1⟩ ⟨hnew.2.2.2.2.2.2, hL.o.2.2.2.1, hL.o.2.1, hL.o.2.2.1⟩ ⟨hL.e.2.2.2.1, hL.e.2.1, hL.e.2.2.1⟩ ⟨Ne.symm hL.out.2.2.1, Ne.symm hL.end_.2.1⟩ hL.out.2.1)⟩
  · by_cases hlt : i < w1.heap.size
    · rw [hlow1 i hlt] at ho
      exact hS.calm i o ho
    · have hi6 : i < w1.heap.size + 6 := by rw [← h6]; exact (Array.getElem?_eq_some_iff.1 ho).1
      rw [hhol i (by omega) hi6] at ho
      cases ho
      rfl
  · rw [hlow i (by omega), hlow1 i (by omega)]
    exact hS.low i h1 fun hb => h2 (.inl hb)
  · rw [hlow i (by omega)]
    refine hS.old i h1 (h2.resolve_right fun h => by omega)
set_option maxHeartbeats 4000000 in
theorem upPhase (hre : V.re = Tryz.prog) (tab : Tab V) (hstrict : V.strict = false) (hstub : V.sh.funcs[fU]? = some stubF) (hok : ∀ i, V.ok i → i < V.n0)
    (hoth : ∀ f, V.sh.funcs[f]? ≠ V.re.funcs[f]? → f = fU ∨ ∃ fn, V.sh.funcs[f]? = some fn ∧ (fn.body = none ∨ ∃ why, fn.body = some (.refuse why))) {f0 : FuncId} {Q : Value → World → Prop} (hf0 : f0 ≠ fU) : Phase V (DoneAt V f0 Q) := by
  intro f args k cs w1 w2 gs sl t q Bad hne hk hcs hBok hS hP hLv hbig h0 hFin
  rcases hoth f hne with rfl | ⟨fn, h1, h2⟩
  rotate_left
  · exact (refused h1 h2 hFin).elim
  have hnd : ∀ g w, g.frame.fn = fU → ¬ DoneAt V f0 Q g w := by
    rintro g w he ⟨fr, v, rfl, _, hfr, _⟩
    exact hf0 (hfr.symm.trans he)
  have hfU : Tryz.prog.funcs[fU]? = some Tryz.f78 := Tryz.func78
  have esh : Frame.enter V.sh fU args k = (bU k).at ⟨args ++ Array.replicate (28 - args.size) undef, []⟩ [.code bodyS] := by
    simp [Frame.enter, hstub, stubF, Tryz.ntmps78, Frame.at, base]
  have ere : Frame.enter V.re fU args k = (bU k).at ⟨args ++ Array.replicate (28 - args.size) undef, []⟩ [.code bodyU] := by
    rw [hre]
    simp [Frame.enter, hfU, Tryz.ntmps78, Frame.at, base, bodyU, Tryz.f78]
  rw [esh] at hFin ⊢
  rw [ere] at h0
  obtain ⟨x, y, J, hT, hx0, hx1, hy1⟩ := finArgs hnd hk (enter_args args) (V := V) (cs := cs ++ [bot V.sh]) (w := w1) hFin
  rw [hT] at h0 hFin ⊢
  suffices H : Concl V (DoneAt V f0 Q) (gS k (TU0 x y J) [.code bodyS] (cs ++ [bot V.sh])) w1 (crowd gs w2 sl) t from H hFin
  clear hFin esh ere hT
  have hold : ∀ i, Bad i → i < w2.heap.size := fun i hi => by
    rcases hS.real i hi with ⟨_, o, h, _⟩ | ⟨_, o, h, _⟩ <;> exact (Array.getElem?_eq_some_iff.1 h).1
  have hSh : ∀ a : Addr, w2.heap.size ≤ a.block → ¬ BadLoc V.n0 Bad (.cell a) := fun a ha hb => by have := hold _ hb.2; omega
  rw [hre] at hLv
  -- to Add's call
  obtain ⟨m1, hG1⟩ := cal1 (Shun := BadLoc V.n0 Bad) (B := w2.heap.size + 6) hk x y J w2 cs hSh (Nat.le_refl _)
  obtain ⟨N1, gs1, a1, wb, sl1, T1, q1, r1, z1, h01, ⟨bS, bO, bE, Wg, Out, End, hBg, ha1⟩, hL1, hP1⟩ := walk_beside (P := Tryz.prog) (fun _ _ _ h => h) _ m1 gs _ w2 sl t q (Nat.le_refl _) h0 hLv (hP.mono (Nat.le_add_right _ 6)) hG1
  subst ha1
  have hL := hBg.lay
  obtain ⟨n1, n2, n3, n4, n5, n6, n7⟩ := hBg.new
  have hCS : ∀ a : Addr, a.block = bS → ¬ BadLoc V.n0 Bad (.cell a) := fun a ha => hSh a (by omega)
  have hW : Wg < w2.heap.size + 6 := hL.wg
  have hC : bS < w2.heap.size + 6 := hL.s.1
  -- the fork
  obtain ⟨N2, gs2, d2, sl2, T2, q2, s2, p2, r2, hB2, hT2⟩ := upFork (End := End) (Low := w2.heap.size + 6) (B := w2.heap.size + 6) hW hC hL hCS hk x y J cs h01 hL1 hP1.hears hBg.hW (sl := sl1)
  have hwf : ∀ j, j ≠ Wg → (((wb.setCell (stA Wg) (.int .u64 KK)).at d2).heap)[j]? = wb.heap[j]? := fun j hj => by
    show (wb.heap.modify Wg _)[j]? = _
    rw [Array.getElem?_modify, if_neg (Ne.symm hj)]
  have hwfs : (((wb.setCell (stA Wg) (.int .u64 KK)).at d2).heap).size = w2.heap.size + 6 := by
    show (wb.heap.modify Wg _).size = _
    rw [Array.size_modify]
    exact hBg.size
  have hWg : WgAt 148 Wg ((wb.setCell (stA Wg) (.int .u64 KK)).at d2) KK 0 := wgAt_set hBg.hW
  have hosf : ((wb.setCell (stA Wg) (.int .u64 KK)).at d2).os = w2.os := hBg.os
  have houtf : ((wb.setCell (stA Wg) (.int .u64 KK)).at d2).output = w2.output := hBg.output
  generalize (wb.setCell (stA Wg) (.int .u64 KK)).at d2 = wf at r2 hwf hwfs hWg hosf houtf
  have fS := (hwf bS hL.s.2.2.2).trans hBg.hS
  have fO := (hwf bO hL.o.2.2.2.1).trans hBg.hO
  have fE := (hwf bE hL.e.2.2.2.1).trans hBg.hE
  have fOut := (hwf Out hL.out.2.2.1).trans hBg.hOut
  have fEnd := (hwf End hL.end_.2.1).trans hBg.hEnd
  have hKR : KR bS bO bE Out End x wf := ⟨by simp [World.cell?, fS], by simp [World.cell?, fO], by simp [World.cell?, fE]⟩
  have hOpen : Lift.Open Out End wf := ⟨⟨0, 0, fOut⟩, 0, 0, fEnd⟩
  have hS6 := sh_six (x := x) (wf := wf) hS hstrict hbig hold hwfs (fun i hi => (hwf i (by omega)).trans (hBg.low i hi)) hosf houtf hL hBg.new (by
    rintro i (rfl | rfl | rfl | rfl | rfl | rfl)
    · exact ⟨_, fS, .inl ⟨_, _, rfl⟩⟩
    · exact ⟨_, fO, .inl ⟨_, _, rfl⟩⟩
    · exact ⟨_, fE, .inl ⟨_, _, rfl⟩⟩
    · exact ⟨_, hWg, .inl ⟨_, _, rfl⟩⟩
    · exact ⟨_, fOut, .inr ⟨_, _, _, _, _, _, rfl⟩⟩
    · exact ⟨_, fEnd, .inr ⟨_, _, _, _, _, _, rfl⟩⟩)
  have hShO : ¬ BadLoc V.n0 Bad (.cell ⟨bO, 0, none⟩) := hSh _ n2
  have hShE : ¬ BadLoc V.n0 Bad (.cell ⟨bE, 0, none⟩) := hSh _ n3
  -- the child's birth, the caller's first receive
  obtain ⟨N3, gs3, b3, w3, sl3, T3, s3, q3, mk3, J3, r3, hB3, hT3, hk3, ho3, hA3⟩ : ∃ N gs' b' w' sl' T' s' q' mk' J', runNT Tryz.prog N (crowd gs2 wf sl2) T2 = (.next (crowd gs' w' sl'), T') ∧ Big Tryz.prog gs1.size gs' (gHead k x y bS bO bE Wg Out End cs (.slice none 0 0) (Up.wf x) J') b' T' q' ∧
      @Tr (Mine (w2.heap.size + 6) End) Wg bS (shyA (BadLoc V.n0 Bad) (Mine (w2.heap.size + 6) End) (w2.heap.size + 6) Wg bS hW hC hCS) gs1.size T1 s' T' p2 ∧
      Kid Tryz.prog Dq Wg (w2.heap.size + 6) Out End (.int .i64 0) (.agg #[]) .select (Sel bS bO bE Out End Wg x) mk' (.int .i64 (IntKind.i64.wrap (Up.wf x + 7))) b' w' ∧ Lift.Open Out End w' ∧ Aside Out wf w' := by
    letI : Shy Wg bS := shyA (BadLoc V.n0 Bad) (Mine (w2.heap.size + 6) End) (w2.heap.size + 6) Wg bS hW hC hCS
    have hK := kidOk (x := x) (bS := bS) (bO := bO) (bE := bE) (Out := Out) (End := End) (Wg := Wg) (Low := w2.heap.size + 6)
    obtain ⟨m2, hG2⟩ := kid1 hL (ok_read _ hShO hL.o.1) (ok_read _ hShE hL.e.1) wf hKR
    obtain ⟨m3, hG3⟩ := cal3 (bS := bS) hk x y hL (ok_read _ hShO hL.o.1) cs wf hKR.o J
    obtain ⟨N1, gs1, a1, b1, w2, sl1, T1, s1, q1, mk1, d1, sl1', r1, hB1, hT1, hk1, ho1, ⟨hrecv, hat⟩, hst1⟩ :=
      talk_run (fun _ _ _ h => h) hK hL.out.1 hL.end_.1 (fun g w h => h.1.1) _ m3 (m2 + 1) gs2 _ _ wf sl2 T2 s2 q2 _ (Nat.le_refl _) hB2 hT2 (.inl ⟨m2, rfl, hG2⟩) hOpen hG3
    obtain ⟨N2, gs2, b2, w3, sl2, T2, s2, q2, mk2, J2, r2, hB2, hT2, hk2, ho2, hA⟩ := recvHead (hW := hW) (hC := hC) hL.out.1 hL hCS hB1 hT1 (fun _ _ _ h => h) hk1 ho1 hst1 hrecv
    obtain ⟨d3, hat⟩ := hat
    obtain ⟨e, e1, e2, e3⟩ := at_eq hat
    exact ⟨N1 + N2, gs2, b2, w3, sl2, T2, s2, q2, mk2, J2, ConcX.runNT_trans r1 r2, hB2, hT2, hk2, ho2, ⟨hA.tape.trans e1, hA.os.trans e2, hA.output.trans e3, hA.size.trans (by rw [e]), fun j hj => (hA.block j hj).trans (by rw [e])⟩⟩
  obtain ⟨⟨so, ro, co⟩, _⟩ := id ho3
  have hS7 := sh_aside hS6 hA3 (.inr ⟨n5, hL.out.1⟩) (by omega) ⟨_, co, .inr ⟨_, _, _, _, _, _, rfl⟩⟩
  refine Concl.run (N := N1 + (N2 + N3)) (M' := crowd gs3 w3 sl3) (T' := T3) (by rw [hre]; exact ConcX.runNT_trans r1 (ConcX.runNT_trans r2 r3)) ?_
  refine stubStart hnd hk hx0 hx1 hy1 J _ w1 _ _ (tab.tables.trans (by rw [hre])) fun J' => ?_
  have hBok' : (∀ i, V.ok i → ¬ (Bad i ∨ (w2.heap.size ≤ i ∧ i < w2.heap.size + 6))) ∧ ∀ i, V.bad0 i → (Bad i ∨ (w2.heap.size ≤ i ∧ i < w2.heap.size + 6)) := ⟨fun i hi hb => hb.elim (hBok.1 i hi) fun h => by have := hok i hi; omega, fun i hi => .inl (hBok.2 i hi)⟩
  obtain ⟨wf0, wf1⟩ := wf_range hx0 hx1
  refine midLoop (c := gs1.size) (p := p2) hL hCS hk hnd hre tab hBok'.1 (fun g hg hb => hb.elim (fun h => by have := hold g h; omega) (fun h => by omega)) (.inr ⟨n5, hL.out.1⟩) (by omega) (fun a ha => hSh a (by omega)) hShO (by omega) hy1
    (fun n cnt slv w1 gs w sl T J hM hn => upExit hL hCS hk hcs hnd hre hstub hBok' ⟨.inr ⟨n4, hW⟩, by omega⟩ ⟨.inr ⟨n6, hL.end_.1⟩, by omega⟩ hShE (fun i h => .inl h) hP1 (Nat.le_refl _) (by omega) hM hn) 306783400 (Up.wf x) 0 _ _ _ _ _ _ _ wf0 (by omega) (by omega) ?_
  have hs3 := hA3.size
  refine ⟨b3, s3, q3, mk3, J3, [], hB3, ⟨_, hW, hC, by omega, hT3⟩, hk3, ho3, ?_, by omega, ?_, sh_on0 hS7 T0 0, (hA3.block Wg (Ne.symm hL.out.2.2.1)).trans hWg, fun _ => (hA3.block bS (Ne.symm hL.out.2.2.2)).trans fS⟩
  · exact ⟨(World.cell?_of_block (hA3.block bS hL.s.2.1)).trans hKR.s, (World.cell?_of_block (hA3.block bO hL.o.2.1)).trans hKR.o, (World.cell?_of_block (hA3.block bE hL.e.2.1)).trans hKR.e⟩
  · exact ⟨rfl, .inl ⟨rfl, rfl⟩⟩
end
end Go.Proofs.YtnikgcedifdaeaaGreatDoor.Up
end
