/- Texts of the proof, joined by a program (part 11): contracts of functions, plain laws. -/
import Derived.Test.YtnikgcedifdaeaaGreatDoorJXTofK0
import Derived.Test.YtnikgcedifdaeaaGreatDoorJXTofK2
import Derived.Test.YtnikgcedifdaeaaGreatDoorJX7
set_option linter.unusedVariables false
set_option linter.unusedSimpArgs false
set_option linter.unusedSectionVars false
section
/- The reading of a day. -/
set_option linter.unusedVariables false
set_option linter.unusedSimpArgs false
namespace Go.Proofs.YtnikgcedifdaeaaGreatDoor.Sab
open Go Go.Proofs.YtnikgcedifdaeaaGreatDoor.Ab
set_option maxRecDepth 100000
noncomputable section
theorem tofp_chk_0 : allB (okTofP 0) tyList = true :=
  allB_cons tofp_chk_0_0 (allB_cons tofp_chk_0_1 (allB_cons tofp_chk_0_2 (allB_cons tofp_chk_0_3 (allB_cons tofp_chk_0_4 (allB_cons tofp_chk_0_5 (allB_cons tofp_chk_0_6 (allB_cons tofp_chk_0_7 (allB_cons tofp_chk_0_8 (allB_cons tofp_chk_0_9 (allB_cons tofp_chk_0_10 (allB_cons tofp_chk_0_11 (allB_cons tofp_chk_0_12 (allB_cons tofp_chk_0_13 allB_nil)))))))))))))
theorem tofp_chk_1 : allB (okTofP 1) tyList = true :=
  allB_cons tofp_chk_1_0 (allB_cons tofp_chk_1_1 (allB_cons tofp_chk_1_2 (allB_cons tofp_chk_1_3 (allB_cons tofp_chk_1_4 (allB_cons tofp_chk_1_5 (allB_cons tofp_chk_1_6 (allB_cons tofp_chk_1_7 (allB_cons tofp_chk_1_8 (allB_cons tofp_chk_1_9 (allB_cons tofp_chk_1_10 (allB_cons tofp_chk_1_11 (allB_cons tofp_chk_1_12 (allB_cons tofp_chk_1_13 allB_nil)))))))))))))
theorem tofg_chk : allB okTofG tyList = true :=
  allB_cons tofg_chk_0 (allB_cons tofg_chk_1 (allB_cons tofg_chk_2 (allB_cons tofg_chk_3 (allB_cons tofg_chk_4 (allB_cons tofg_chk_5 (allB_cons tofg_chk_6 (allB_cons tofg_chk_7 (allB_cons tofg_chk_8 (allB_cons tofg_chk_9 (allB_cons tofg_chk_10 (allB_cons tofg_chk_11 (allB_cons tofg_chk_12 (allB_cons tofg_chk_13 allB_nil)))))))))))))
theorem two_pl {q : Int → Ty → Bool} (h0 : allB (q 0) tyList = true) (h1 : allB (q 1) tyList = true) {pl : Int} (hp : pl ∈ places) {t : Ty} (ht : t ∈ tyList) : q pl t = true := by
  simp only [places, List.mem_cons, List.not_mem_nil, or_false] at hp
  rcases hp with rfl | rfl
  · exact allB_get h0 t ht
  · exact allB_get h1 t ht
theorem rows1_ok {y : Int} {p : Ty × Ty} (h : YP y p) (h9 : y ≤ 9998) (l : List Int) (pl : Int) (hp : pl ∈ places) : LMemo.Ok base.P base.G (ry y l) (rows1 p.1 pl) := by
  have hx : allB pl0 (rowR p.1 (torahOff p.1 pl)).cs = true := pl_rds _ _
  refine .cons (LVC.ans (x := rowR p.1 (torahOff p.1 pl)) (torah_lvc h h9 pl hp) rfl hx ?_ ?_) .nil
  · simp [conc1, conc0, den_y, den_l]
  · exact (rds_conc (ry y l) p.1.1 (Cal.first y) _ (fun o => den_f h.a o l)).symm
/-- On a Sabbath of the cycle. -/
theorem tof_p {y : Int} {p : Ty × Ty} (h : YP y p) (h9 : y ≤ 9998) (pl : Int) (hp : pl ∈ places) (e : Int × Int × Int) (he : e ∈ torahOff p.1 pl) (o0 : 23 - pl ≤ e.2.2) (o1 : e.2.2 ≤ tyLen p.1 + (22 - pl)) : VC base fTOf [iv (Cal.first y + e.2.2), iv pl] (.tuple #[.agg #[iv e.1, iv e.2.1, iv (Cal.first y + e.2.2)], iv 0]) := by
  have c := allB_get (show allB (fun e => isR (.tuple [.agg [iL e.1, iL e.2.1, dE (p.1.1 + e.2.2)], iL 0]) (base.goL vCyc (memo [(fCyc, [dE (p.1.1 + e.2.2), iL pl], .tuple [yE 0, iL 0])]) (memoL (rows1 p.1 pl)) 400 fTOf [dE (p.1.1 + e.2.2), iL pl])) (torahOff p.1 pl) = true from two_pl tofp_chk_0 tofp_chk_1 hp h.a.mem) e he
  have hE : Memo.Ok base.P base.G (ry y []) [(fCyc, [dE (p.1.1 + e.2.2), iL pl], .tuple [yE 0, iL 0])] := by
    refine .cons ((cyc_vc h.a h9 pl hp e.2.2 o0 o1).ans rfl rfl ?_ ?_) .nil
    · simp [conc1, conc0, den_f h.a, den_l]
    · simp [conc, conc1, conc0, den_y, den_l]
  have := (Base.ansL base_fit (vCyc_ok h.a.low h9) (OkO.memo hE) (OkL.memo (rows1_ok h h9 [] pl hp)) c rfl rfl).vc rfl rfl
  simpa [conc, conc1, conc0, den_f h.a, den_l] using this
/-- On any other day. -/
theorem tof_g {y : Int} {p : Ty × Ty} (h : YP y p) (h9 : y ≤ 9998) (pl : Int) (hp : pl ∈ places) (o : Int) (hw6 : (Cal.first y + o) % 7 ≠ 6) (o0 : 23 - pl ≤ o) (o1 : o ≤ tyLen p.1 + (22 - pl)) : VC base fTOf [iv (Cal.first y + o), iv pl] (.tuple #[.agg #[iv 0, iv 0, iv 0], iv 4]) := by
  obtain ⟨w, hw⟩ : ∃ w, w = (Cal.first y + o) % 7 := ⟨_, rfl⟩
  obtain ⟨q, hq⟩ : ∃ q, q = (Cal.first y + o) / 7 - Cal.first y / 7 := ⟨_, rfl⟩
  have hws : w ∈ six := by
    have : w = 0 ∨ w = 1 ∨ w = 2 ∨ w = 3 ∨ w = 4 ∨ w = 5 := by omega
    rcases this with h | h | h | h | h | h <;> rw [h] <;> decide
  have hpl : 0 ≤ pl ∧ pl ≤ 1 := by
    simp only [places, List.mem_cons, List.not_mem_nil, or_false] at hp
    omega
  have hl : tyLen p.1 ≤ 385 := by
    have c2 := of_ty mons_num h.a
    simp only [Bool.and_eq_true, ile_iff] at c2
    exact c2.2
  have c := allB_get (allB_get (show allB (fun pl => allB (fun w => isR (.tuple [.agg [iL 0, iL 0, iL 0], iL 4]) (base.goL vOfW (memo [(fCyc, [nW w, iL pl], .tuple [yE 0, iL 0])]) (memoL (rows1 p.1 pl)) 400 fTOf [nW w, iL pl])) six) places = true from of_ty tofg_chk h.a) pl hp) w hws
  obtain ⟨f0, f1⟩ := first_bd y h.a.low (by omega)
  have dn : Lin.den (ry y [q]) ⟨w, [(1, 7), (2, 7)]⟩ = Cal.first y + o := by simp [Lin.den, denT, ry, rho]; omega
  have hE : Memo.Ok base.P base.G (ry y [q]) [(fCyc, [nW w, iL pl], .tuple [yE 0, iL 0])] := by
    refine .cons ((cyc_vc h.a h9 pl hp o o0 o1).ans rfl rfl ?_ ?_) .nil
    · simp [nW, conc1, conc0, dn, den_l]
    · simp [conc, conc1, conc0, den_y, den_l]
  have := (Base.ansL (ρ := ry y [q]) base_fit (env_ok (inB_cons h.a.low h9 (inB_cons (by omega) (by omega) (inB_cons (by omega) (by omega) inB_nil))) (by simp [vOfW]) (by simp [vOfW])) (OkO.memo hE) (OkL.memo (rows1_ok h h9 [q] pl hp)) c rfl rfl).vc rfl rfl
  simpa [nW, conc, conc1, conc0, dn, den_l] using this
/-- Each Sabbath of a cycle is one of its readings' days. -/
def isI' (a b : Int) : Bool := zero (a - b)
theorem sat_chk : allB (fun t => allB (fun pl => allB (fun o => bif isI' ((t.1 + o) % 7) 6 && (ile (23 - pl) o && ile o (tyLen t + (22 - pl))) then elemI o ((torahOff t pl).map fun e => e.2.2) else true) (daysN 420)) places) tyList = true := by decide +kernel
theorem elemI_mem {o : Int} : ∀ {l : List Int}, elemI o l = true → o ∈ l
  | [], h => by cases h
  | a :: r, h => by
    unfold elemI at h
    cases hz : zero (o - a) with
    | true => have := (zero_iff _).1 hz; exact (show o = a by omega) ▸ List.mem_cons_self
    | false => rw [hz] at h; exact List.mem_cons_of_mem _ (elemI_mem h)
theorem sat_of {y : Int} {p : Ty × Ty} (h : YP y p) (pl : Int) (hp : pl ∈ places) (o : Int) (hw : (Cal.first y + o) % 7 = 6) (o0 : 23 - pl ≤ o) (o1 : o ≤ tyLen p.1 + (22 - pl)) : ∃ e ∈ torahOff p.1 pl, e.2.2 = o := by
  have hpl : 0 ≤ pl ∧ pl ≤ 1 := by
    simp only [places, List.mem_cons, List.not_mem_nil, or_false] at hp
    omega
  have hl : tyLen p.1 ≤ 385 := by
    have c2 := of_ty mons_num h.a
    simp only [Bool.and_eq_true, ile_iff] at c2
    exact c2.2
  have hwd := h.a.wd
  have c := allB_get (allB_get (of_ty sat_chk h.a) pl hp) o (mem_daysN 420 o (by omega) (by simp; omega))
  rw [show (isI' ((p.1.1 + o) % 7) 6 && (ile (23 - pl) o && ile o (tyLen p.1 + (22 - pl)))) = true by
    rw [Bool.and_eq_true, Bool.and_eq_true, ile_iff, ile_iff]
    refine ⟨(zero_iff _).2 (by omega), o0, o1⟩] at c
  obtain ⟨e, he, h2⟩ := List.mem_map.1 (elemI_mem c)
  exact ⟨e, he, h2⟩
def vCE (pl : Int) (b : Bool) : Ab.Env := ⟨[(bif b then 9999 else 1, bif b then 9999 else 1), (-400000, 400000), bif b then (23 - pl, 390) else (0, 22 - pl), (1, 12), (1, 30)], [], []⟩
def okCyE (t : Ty) : Bool := allB (fun pl => allB (fun ad => allB (fun b => isR (.tuple [iL 0, iL 2]) (base.go (vCE pl b) (memo (mCy t ad)) 100 fCyc [nO t, iL pl])) bools) bools) places
set_option maxHeartbeats 0 in
theorem cye_chk : allB okCyE tyList = true := by kernel_rfl
theorem cye_vc {y : Int} {t : Ty} (h : YT y t) (pl : Int) (hp : pl ∈ places) (o : Int) (o0 : 0 ≤ o) (o1 : o < tyLen t) (hy : y = 1 ∧ o ≤ 22 - pl ∨ y = 9999 ∧ 23 - pl ≤ o) : VC base fCyc [iv (Cal.first y + o), iv pl] (.tuple #[iv 0, iv 2]) := by
  obtain ⟨num, d, ad, n0, n1, d0, d1, v⟩ := from_any h o o0 o1
  have hw := h.wd
  have c2 := of_ty mons_num h
  simp only [Bool.and_eq_true, ile_iff] at c2
  obtain ⟨f0, f1⟩ := first_bd y h.low (by have := h.high; omega)
  have dn : Lin.den (ry y [o, num, d]) ⟨t.1, [(1, 7), (2, 1)]⟩ = Cal.first y + o := by simp [Lin.den, denT, ry, rho]; omega
  have dnum : Lin.den (ry y [o, num, d]) ⟨0, [(3, 1)]⟩ = num := by simp [Lin.den, denT, ry, rho]
  have dd : Lin.den (ry y [o, num, d]) ⟨0, [(4, 1)]⟩ = d := by simp [Lin.den, denT, ry, rho]
  have hE : Memo.Ok base.P base.G (ry y [o, num, d]) (mCy t ad) := by
    refine .cons (v.ans rfl rfl ?_ ?_) (mEnds_ok (yo := 0) (c := t.1) (by simpa using h) (by simp; omega) _)
    · simp [nO, conc1, conc0, dn]
    · simp [conc, conc1, conc0, den_y, den_l, dnum, dd]
  have hb : ad ∈ bools := by cases ad <;> decide
  obtain ⟨b, hbb, hV⟩ : ∃ b, b ∈ bools ∧ (vCE pl b).Ok (ry y [o, num, d]) := by
    rcases hy with ⟨rfl, ho⟩ | ⟨rfl, ho⟩
    · exact ⟨false, by decide, env_ok (inB_cons (by decide) (by decide) (inB_cons (by omega) (by omega) (inB_cons (by omega) (by omega) (inB_cons n0 n1 (inB_cons d0 d1 inB_nil))))) (by simp [vCE]) (by simp [vCE])⟩
    · exact ⟨true, by decide, env_ok (inB_cons (by decide) (by decide) (inB_cons (by omega) (by omega) (inB_cons (by omega) (by omega) (inB_cons n0 n1 (inB_cons d0 d1 inB_nil))))) (by simp [vCE]) (by simp [vCE])⟩
  have c := allB_get (allB_get (allB_get (show allB (fun pl => allB (fun ad => allB (fun b => isR (.tuple [iL 0, iL 2]) (base.go (vCE pl b) (memo (mCy t ad)) 100 fCyc [nO t, iL pl])) bools) bools) places = true from of_ty cye_chk h) pl hp) ad hb) b hbb
  have := (Base.ansB base_fit hV (OkO.memo hE) c rfl rfl).vc rfl rfl
  simpa [nO, conc, conc1, conc0, dn, den_l] using this
theorem tofe_chk : allB (fun pl => isR (.tuple [.agg [iL 0, iL 0, iL 0], iL 2]) (base.go vIn (memo [(fCyc, [nE, iL pl], .tuple [iL 0, iL 2])]) 60 fTOf [nE, iL pl])) places = true := by kernel_rfl
theorem tof_e {y : Int} {t : Ty} (h : YT y t) (pl : Int) (hp : pl ∈ places) (o : Int) (o0 : 0 ≤ o) (o1 : o < tyLen t) (hy : y = 1 ∧ o ≤ 22 - pl ∨ y = 9999 ∧ 23 - pl ≤ o) : VC base fTOf [iv (Cal.first y + o), iv pl] (.tuple #[.agg #[iv 0, iv 0, iv 0], iv 2]) := by
  have h1 := first_le (a := 1) (b := y) (by decide) h.low (by have := h.high; omega)
  have h2 := first_le (a := y + 1) (b := 10000) (by have := h.low; omega) (by have := h.high; omega) (by decide)
  rw [first_one] at h1
  rw [first_last, h.len] at h2
  have hE : Memo.Ok base.P base.G (rho [Cal.first y + o, 1]) [(fCyc, [nE, iL pl], .tuple [iL 0, iL 2])] := by
    refine .cons ((cye_vc h pl hp o o0 o1 hy).ans rfl rfl ?_ ?_) .nil
    · simp [conc1, conc0, den_n, den_l]
    · simp [conc, conc1, conc0, den_l]
  have := (Base.ansB (V := vIn) (ρ := rho [Cal.first y + o, 1]) base_fit (env_ok (inB_cons (by omega) (by omega) (inB_cons (by decide) (by decide) inB_nil)) (by simp [vIn]) (by simp [vIn])) (OkO.memo hE) (allB_get tofe_chk pl hp) rfl rfl).vc rfl rfl
  simpa [conc, conc1, conc0, den_n, den_l] using this
end
end Go.Proofs.YtnikgcedifdaeaaGreatDoor.Sab
end

section
/- A struct that a call answers with, one of its cells unknown, told in values. Plain. -/
set_option linter.unusedVariables false
namespace Go.Proofs.YtnikgcedifdaeaaGreatDoor.Ab
open Go
noncomputable section
/-- The struct's cells: l1, one that is unknown, l2; and how the call ended. -/
structure VX (B : Base) (f : Nat) (vs l1 l2 : List Value) (e : Int) : Prop where
  has : ∃ fn c, B.P.funcs[f]? = some fn ∧ (fn.name == "runtime.NumGoroutine") = false ∧ fn.body = some c
  calls : ∀ w, B.G w → Calls B.P f vs.toArray w fun r w' => ∃ x, x.oneCell' = true ∧ r = .returned (.tuple #[.agg (l1 ++ x :: l2).toArray, .int .i64 e]) ∧ Same w w'
theorem vrs0_iff {Γ : Gam} (l : List AV) (m : List Value) (h : allB pl0 l = true) : VRs Γ l m ↔ m = l.map (conc0 Γ.ρ) := vrs_iff (c := conc0 Γ.ρ) (fun a v h => conc0_iff h) l m h
theorem Ans.vx {B : Base} {ρ : Nat → Int} {f : Nat} {l a1 a2 : List AV} {e : Lin} (h : Ans B.P B.G ρ f l (.tuple [.agg (a1 ++ .one :: a2), .int .i64 e])) (hl : allB pl1 l = true) (h1 : allB pl0 a1 = true) (h2 : allB pl0 a2 = true) : VX B f (l.map (conc1 ρ)) (a1.map (conc0 ρ)) (a2.map (conc0 ρ)) (e.den ρ) := by
  refine ⟨h.has, fun w hG => Calls.mono (h.calls w _ hG ((vrs_iff (Γ := ⟨ρ, fun _ => none, w⟩) (c := conc1 ρ) (fun a v h => conc1_iff h) l _ hl).2 (by simp))) ?_⟩
  rintro r w' ⟨v, rfl, hv, hs⟩
  obtain ⟨m, rfl, hm⟩ := hv.of_tuple
  obtain ⟨v1, r1, e1, k1, k2⟩ := hm.head
  obtain ⟨v2, r2, rfl, k3, k4⟩ := k2.head
  obtain rfl := k4.nil_of
  obtain ⟨n, rfl, hn⟩ := k1.of_agg
  obtain ⟨m1, m2, e2, g1, g2⟩ := VRs.split hn
  obtain ⟨x, m3, rfl, g3, g4⟩ := g2.head
  have q1 := (vrs0_iff (Γ := ⟨ρ, fun _ => none, w⟩) a1 m1 h1).1 g1
  have q2 := (vrs0_iff (Γ := ⟨ρ, fun _ => none, w⟩) a2 m3 h2).1 g4
  cases g3 with
  | one g5 =>
  cases k3 with
  | int k5 =>
    refine ⟨x, g5, ?_, hs⟩
    have e3 : m = #[.agg n, _] := Array.toList_inj.1 e1
    have e4 : n = (a1.map (conc0 ρ) ++ x :: a2.map (conc0 ρ)).toArray := Array.toList_inj.1 (by rw [e2, q1, q2])
    rw [e3, e4, k5]
theorem scalar_mid {a1 a2 : List AV} {e : Lin} (h1 : allB pl0 a1 = true) (h2 : allB pl0 a2 = true) : scalar (.tuple [.agg (a1 ++ .one :: a2), .int .i64 e]) = true := by
  have hsc : all0 (a1 ++ .one :: a2) = true := by
    have h3 := all0_of h1
    have h4 := all0_of h2
    clear h1
    induction a1 with
    | nil => exact h4
    | cons b r ih =>
      unfold all0 at h3
      show all0 (b :: (r ++ .one :: a2)) = true
      unfold all0
      cases hb : sc0 b with
      | false => rw [hb] at h3; cases h3
      | true => rw [hb] at h3; exact ih h3
  show all1 [.agg (a1 ++ .one :: a2), .int .i64 e] = true
  simp only [all1, sc1, sc0, hsc, cond_true]
theorem VX.ans {B : Base} {ρ : Nat → Int} {f : Nat} {l a1 a2 : List AV} {e : Lin} {vs l1 l2 : List Value} {z : Int} (h : VX B f vs l1 l2 z) (hl : allB pl1 l = true) (h1 : allB pl0 a1 = true) (h2 : allB pl0 a2 = true) (e1 : vs = l.map (conc1 ρ)) (e2 : l1 = a1.map (conc0 ρ)) (e3 : l2 = a2.map (conc0 ρ)) (e4 : z = e.den ρ) : Ans B.P B.G ρ f l (.tuple [.agg (a1 ++ .one :: a2), .int .i64 e]) := by
  refine ⟨h.has, scalar_mid h1 h2, flat_of hl, fun w us hG hvs => ?_⟩
  · have := (vrs_iff (Γ := ⟨ρ, fun _ => none, w⟩) (c := conc1 ρ) (fun a v h => conc1_iff h) l us.toList hl).1 hvs
    obtain rfl : us = vs.toArray := by rw [e1, ← this]
    refine Calls.mono (h.calls w hG) ?_
    rintro r w' ⟨x, hx, rfl, hs⟩
    refine ⟨_, rfl, .tuple' (.cons (.agg' ?_) (.cons (.int e4) .nil)), hs⟩
    have g1 : VRs ⟨ρ, fun _ => none, w⟩ a1 l1 := (vrs0_iff (Γ := ⟨ρ, fun _ => none, w⟩) a1 l1 h1).2 e2
    have g2 : VRs ⟨ρ, fun _ => none, w⟩ a2 l2 := (vrs0_iff (Γ := ⟨ρ, fun _ => none, w⟩) a2 l2 h2).2 e3
    simpa using g1.append (.cons (.one hx) g2)
/-- The kernel's reckoning, what has an address being forgotten. -/
def isX (r : AV) : Option (AV × AH) → Bool
  | some (a, _) => sameR (blur a) r
  | none => false
theorem Base.ansXB {B : Base} (hB : B.Fit) {V : Env} {ρ : Nat → Int} (hV : V.Ok ρ) {O : Oracle} (hO : OkO B ρ O) {L : LOracle} (hL : OkL B ρ L) {n f : Nat} {l : List AV} {r : AV} (h : isX r (B.goL V O L n f l) = true) (hr : scalar r = true) (hl : allB pl1 l = true) : Ans B.P B.G ρ f l r := by
  refine B.ansX hB hV hO hL (n := n) (r := r) ?_ hr (flat_of hl)
  unfold Base.goL at h
  rw [runF_eq] at h
  cases hx : callA (run (B.cfg V O L) n) (B.cfg V O L) f l B.A0 with
  | none => rw [hx] at h; cases h
  | some q =>
    rw [hx] at h
    rw [Option.map_some, sameR_eq (a := blur q.1) (b := r) h]
theorem conc01 {ρ : Nat → Int} {a : AV} (h : pl0 a = true) : conc1 ρ a = conc0 ρ a := by cases a <;> first | rfl | cases h
theorem allB1 {a : AV} (h : pl1 a = true) : allB pl1 [a] = true := by unfold allB; rw [h]; rfl
theorem allB2 {a b : AV} (h : pl1 a = true) (k : pl1 b = true) : allB pl1 [a, b] = true := by unfold allB; rw [h]; exact allB1 k
end
end Go.Proofs.YtnikgcedifdaeaaGreatDoor.Ab
end
