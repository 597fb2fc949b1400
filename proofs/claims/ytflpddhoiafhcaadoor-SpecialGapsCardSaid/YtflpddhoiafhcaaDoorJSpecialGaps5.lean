/- Texts of the proof of 'SpecialGaps', joined by a program (part 5): contracts of functions, plain laws. -/
import Derived.Test.YtflpddhoiafhcaaDoorJSpecialGaps2
import Derived.Test.YtflpddhoiafhcaaDoorJSpecialGaps4
import Derived.Deep.RegionHeld3
import Derived.IntWalk
import Derived.RegionTactic
import Derived.Deep.DeepCutAuto
set_option linter.unusedVariables false
set_option linter.unusedSimpArgs false
section
/- The law 'almanackerlaw22.SpecialGaps', walked by hand (it lays forty days in an array): it answers true. -/
namespace Go.Proofs.YtflpddhoiafhcaaDoor.S
open Go.RowKit Go.Proofs.YtflpddhoiafhcaaDoor.H Go.Proofs.YtflpddhoiafhcaaDoorW.PrintWords Go.Proofs.YtflpddhoiafhcaaDoorW.PrintLast Go.Proofs.YtflpddhoiafhcaaDoorW.PrintMore
attribute [local go_sem] max2_int min2_int max_two min_two
/-- What the law on the gaps asks beside: where the six kinds lie, and how. -/
structure GapsOk (L : List S48) (d30 d31 d32 d33 d36 d37 : Int) : Prop where
  p30 : ∃ m : Int, 0 ≤ m ∧ m < 8 ∧ rd_T48 L m = ⟨30, d30⟩
  p31 : ∃ m : Int, 0 ≤ m ∧ m < 8 ∧ rd_T48 L m = ⟨31, d31⟩
  p32 : ∃ m : Int, 0 ≤ m ∧ m < 8 ∧ rd_T48 L m = ⟨32, d32⟩
  p33 : ∃ m : Int, 0 ≤ m ∧ m < 8 ∧ rd_T48 L m = ⟨33, d33⟩
  p36 : ∃ m : Int, 0 ≤ m ∧ m < 8 ∧ rd_T48 L m = ⟨36, d36⟩
  p37 : ∃ m : Int, 0 ≤ m ∧ m < 8 ∧ rd_T48 L m = ⟨37, d37⟩
  g : wrap64 (d33 - d30) = 28 ∨ wrap64 (d33 - d30) = 35
  c : wrap64 (d33 - d32) = 7
  n : wrap64 (d37 - d36) = 7
  z : decide (d31 < d32) = true
  s : decide (d30 < d31) = true
theorem below_two' {W V w' : World} (a : Below W.heap.size W V) (b : Below V.heap.size V w') : Below W.heap.size W w' := a.trans (b.mono a.size)
set_option maxHeartbeats 8000000 in
set_option maxRecDepth 100000 in
theorem gaps_walk (a0 y s n : Int) (L : List S48) (d30 d31 d32 d33 d36 d37 : Int) (hy : wrap64 (1 + Int.tmod (wrap64 a0) 9999) = y) (D : DaysOk y s n L) (G : GapsOk L d30 d31 d32 d33 d36 d37) (w : World) (HG : GlobT w) :
    Calls Tryd.prog 11 #[.int .u16 a0] w fun e w' => e = .returned (.bool true) ∧ Below w.heap.size w w' := by
  have HO : Aside0 (∀ V, GlobT V → Calls Tryd.prog 42 #[.int .i64 y] V fun e w' => ∃ v0_ : Value, e = .returned (.tuple #[v0_, .int .i64 0]) ∧ Kd.R k48 48 w' V.heap.size (fun _ => True) v0_ L ∧ Below V.heap.size V w') := ⟨fun V hV => special_Of.calls 30 y L 0 V hV D.of⟩
  have HAW : Aside0 (∀ V, GlobT V → Calls Tryd.prog 44 #[] V fun e w' => e = .returned (.bool true) ∧ Below V.heap.size V w') := ⟨fun V hV => almanackerlaw22_awake.calls 30 true V hV awake_eq⟩
  have HD := Aside0.mk D
  have HGP := Aside0.mk G
  have HGL := Aside0.mk HG
  have hlen := D.len
  clear D G HG
  go_enter Tryd.func11, Tryd.ntmps11
  go_wp2_with fail
  refine (HO.out _ HGL.out).mono ?_
  rintro e W1 ⟨v0, rfl, hR, hb1⟩
  obtain ⟨A, c, rfl, hlc, hC⟩ := Kd.R_reads hR
  have HC1 := Aside0.mk hC
  have HG1 := Aside0.mk (HGL.out.below hb1)
  have HB1 := Aside0.mk hb1
  have HS1 := Aside0.mk hb1.size
  clear hR hC hb1 HO
  go_wp2_with fail
  go_loopw [6] (fun s6 wr => ∃ (i : Int) (cs : Array Value), 0 ≤ i ∧ i ≤ 8 ∧ s6 = .int .i64 i ∧ Aside0 (wr.heap[W1.heap.size]? = some (.cells cs 59 (0, 0))) ∧ cs.size = 40 ∧ Aside0 (∀ m : Int, 0 ≤ m → m < i → cs[(rd_T48 L m).f0.toNat]? = some (.int .i64 (rd_T48 L m).f1)) ∧ Aside0 (Below W1.heap.size W1 wr)) (fun s6 _ => 8 - (intOf s6).toNat)
  case atStart => exact ⟨0, _, by omega, by omega, rfl, ⟨blk_new W1 _⟩, rfl, ⟨fun m h0 h1 => absurd h1 (by omega)⟩, ⟨below_alloc (Below.refl _ W1) _⟩⟩
  case round =>
    obtain ⟨i, cs, i0, i8, rfl, HBK, hcs, HP, HB⟩ := hrel
    have hlenI : (L.length : Int) = 8 := by rw [hlen]; rfl
    by_cases hlt : i < (L.length : Int)
    · obtain ⟨kd, d, E⟩ := HD.out.entry i i0 (by omega)
      have HE := Aside0.mk E
      obtain ⟨ad, eA, x0, x1⟩ := at_T48 (Kd.C_below HC1.out HB.out) i i0 hlt
      subst eA
      rw [E.at_] at x0 x1
      simp only at x0 x1
      have kb0 := of_decide_eq_false E.k0
      have kb1 := of_decide_eq_false E.k1
      have b0 : decide (kd > 0) = true := decide_eq_true (by omega)
      have b1 : decide (kd < 40) = true := decide_eq_true (by omega)
      obtain ⟨u, hu⟩ : ∃ u, wr.cell? ⟨W1.heap.size, kd.toNat, none⟩ = some u := by
        rw [blk_cell HBK.out]
        exact ⟨_, Array.getElem?_eq_getElem (by omega)⟩
      have hfz := blk_frozen HBK.out kd.toNat
      have hlt' := decide_eq_true hlt
      have k0' : 0 ≤ kd := by omega
      have k1' : kd < 40 := by omega
      clear E
      have hw : wrap64 (i + 1) = i + 1 := by unfold wrap64; omega
      go_upto_region 7 with fail
      go_region
      go_wp2_with fail
      first | rw [hw] | skip
      refine ⟨⟨i + 1, cs.setIfInBounds kd.toNat (.int .i64 d), by omega, by omega, rfl, ⟨?_⟩, by rw [Array.size_setIfInBounds]; exact hcs, ⟨fun m m0 m1 => ?_⟩, ⟨below_drew (below_set HB.out (Nat.le_refl _))⟩⟩, by simp [intOf]; omega⟩
      · exact blk_drew (blk_put HBK.out kd.toNat _ rfl)
      · by_cases hm : m = i
        · subst hm
          rw [HE.out.at_]
          simp only
          rw [Array.getElem?_setIfInBounds_self]
          simp; omega
        · have hx := HE.out.other m m0 (by omega)
          rw [beq_eq_false_iff_ne] at hx
          have hmk : (rd_T48 L m).f0.toNat ≠ kd.toNat := by
            obtain ⟨kd2, d2, E2⟩ := HD.out.entry m m0 (by omega)
            have q0 := of_decide_eq_false E2.k0
            rw [E2.at_] at hx ⊢
            simp only at hx ⊢
            omega
          rw [Array.getElem?_setIfInBounds_ne (by omega)]
          exact HP.out m m0 (by omega)
    · obtain rfl : i = 8 := by omega
      have HCELL : ∀ k d : Int, (∃ m : Int, 0 ≤ m ∧ m < 8 ∧ rd_T48 L m = ⟨k, d⟩) → wr.cell? ⟨W1.heap.size, k.toNat, none⟩ = some (.int .i64 d) := by
        rintro k d ⟨m, m0, m1, hm⟩
        have := HP.out m m0 m1
        rw [hm] at this
        rw [blk_cell HBK.out]
        exact this
      have G := HGP.out
      have c30 : wr.cell? ⟨W1.heap.size, 30, none⟩ = some (.int .i64 d30) := HCELL 30 d30 G.p30
      have c31 : wr.cell? ⟨W1.heap.size, 31, none⟩ = some (.int .i64 d31) := HCELL 31 d31 G.p31
      have c32 : wr.cell? ⟨W1.heap.size, 32, none⟩ = some (.int .i64 d32) := HCELL 32 d32 G.p32
      have c33 : wr.cell? ⟨W1.heap.size, 33, none⟩ = some (.int .i64 d33) := HCELL 33 d33 G.p33
      have c36 : wr.cell? ⟨W1.heap.size, 36, none⟩ = some (.int .i64 d36) := HCELL 36 d36 G.p36
      have c37 : wr.cell? ⟨W1.heap.size, 37, none⟩ = some (.int .i64 d37) := HCELL 37 d37 G.p37
      have hlt' : decide ((8 : Int) < (L.length : Int)) = false := decide_eq_false hlt
      have HX : Aside0 (∀ V, Below wr.heap.size wr V → V.cell? ⟨W1.heap.size, 30, none⟩ = some (.int .i64 d30) ∧ V.cell? ⟨W1.heap.size, 31, none⟩ = some (.int .i64 d31) ∧ V.cell? ⟨W1.heap.size, 32, none⟩ = some (.int .i64 d32) ∧ V.cell? ⟨W1.heap.size, 33, none⟩ = some (.int .i64 d33) ∧ V.cell? ⟨W1.heap.size, 36, none⟩ = some (.int .i64 d36) ∧ V.cell? ⟨W1.heap.size, 37, none⟩ = some (.int .i64 d37)) := ⟨fun V hV => by
        have hlt2 := blk_lt HBK.out
        refine ⟨?_, ?_, ?_, ?_, ?_, ?_⟩ <;> (rw [hV.cell hlt2]; assumption)⟩
      clear HCELL
      have HGW := Aside0.mk (HG1.out.below HB.out)
      have g1 := G.c
      have g2 := G.n
      have g3 := G.z
      have g4 := G.s
      obtain ⟨gp, hgp⟩ : ∃ gp, wrap64 (d33 - d30) = gp := ⟨_, rfl⟩
      have hg := G.g
      rw [hgp] at hg
      clear G
      go_wp2_with fail
      refine (HAW.out _ HGW.out).mono ?_
      rintro e W2 ⟨rfl, hb2⟩
      have HB2 := Aside0.mk (HB1.out.trans ((below_two' HB.out hb2).mono HS1.out))
      clear c30 c31 c32 c33 c36 c37
      obtain ⟨c30, c31, c32, c33, c36, c37⟩ := HX.out W2 hb2
      clear hb2
      rcases hg with rfl | rfl
      · go_wp2_with fail
        go_ret
        exact ⟨rfl, HB2.out⟩
      · go_wp2_with fail
        go_ret
        exact ⟨rfl, HB2.out⟩
def kindDay (b kd : Int) (l : Bool) (k : Int) : Int := (((spList b kd l).find? fun p => p.1 == k).getD (0, 0)).2
def gapFact (b kd : Int) (l : Bool) : Prop :=
  (∀ k ∈ [(30 : Int), 31, 32, 33, 36, 37], ∃ m ∈ List.range 8, (spList b kd l).getD m (0, 0) = (k, kindDay b kd l k)) ∧
  (kindDay b kd l 33 - kindDay b kd l 30 = 28 ∨ kindDay b kd l 33 - kindDay b kd l 30 = 35) ∧ kindDay b kd l 33 - kindDay b kd l 32 = 7 ∧ kindDay b kd l 37 - kindDay b kd l 36 = 7 ∧ kindDay b kd l 31 < kindDay b kd l 32 ∧ kindDay b kd l 30 < kindDay b kd l 31
instance (b kd : Int) (l : Bool) : Decidable (gapFact b kd l) := by unfold gapFact; infer_instance
theorem gap_facts : ∀ t ∈ Cal.tyList, gapFact t.1 t.2.1 t.2.2 := by decide +kernel
theorem gaps_ok (y : Int) (h0 : 1 ≤ y) (h1 : y ≤ 9999) : ∃ s n L d30 d31 d32 d33 d36 d37, DaysOk y s n L ∧ GapsOk L d30 d31 d32 d33 d36 d37 := by
  obtain ⟨s, n, L, D⟩ := days_ok y h0 h1
  obtain ⟨b, kd, l, Y⟩ := Yr.all y h0 h1
  have hL := (sp_list Y 30 (by omega)).symm.trans D.of
  simp only [Option.some.injEq, Prod.mk.injEq, and_true] at hL
  subst hL
  have F := gap_facts _ Y.ht
  unfold gapFact at F
  simp only at F
  obtain ⟨F1, F2, F3, F4, F5, F6⟩ := F
  have hlen := sp_len _ Y.ht
  simp only at hlen
  have hp : ∀ k ∈ [(30 : Int), 31, 32, 33, 36, 37], ∃ m : Int, 0 ≤ m ∧ m < 8 ∧ rd_T48 ((spList b kd l).map (atDay (Cal.first y))) m = ⟨k, Cal.first y + kindDay b kd l k⟩ := by
    clear F2 F3 F4 F5 F6
    intro k hk
    obtain ⟨m, hm, he⟩ := F1 k hk
    rw [List.mem_range] at hm
    refine ⟨m, by omega, by omega, ?_⟩
    rw [rd_at _ _ _ (by omega) (by rw [hlen]; omega), Int.toNat_natCast, he]
  have p30 := hp 30 (by decide)
  have p31 := hp 31 (by decide)
  have p32 := hp 32 (by decide)
  have p33 := hp 33 (by decide)
  have p36 := hp 36 (by decide)
  have p37 := hp 37 (by decide)
  clear hp F1
  generalize kindDay b kd l 30 = e30 at *
  generalize kindDay b kd l 31 = e31 at *
  generalize kindDay b kd l 32 = e32 at *
  generalize kindDay b kd l 33 = e33 at *
  generalize kindDay b kd l 36 = e36 at *
  generalize kindDay b kd l 37 = e37 at *
  have w : ∀ x z : Int, (Cal.first y + x) - (Cal.first y + z) = x - z := fun x z => by omega
  refine ⟨s, n, _, _, _, _, _, _, _, D, p30, p31, p32, p33, p36, p37, ?_, ?_, ?_, ?_, ?_⟩
  · rw [w]
    rcases F2 with h | h
    · rw [h]; exact .inl (by unfold wrap64; omega)
    · rw [h]; exact .inr (by unfold wrap64; omega)
  · rw [w, F3]; unfold wrap64; omega
  · rw [w, F4]; unfold wrap64; omega
  · exact decide_eq_true (by omega)
  · exact decide_eq_true (by omega)
theorem special_gaps (a0 : Int) (h0 : 0 ≤ a0) (h1 : a0 ≤ 65535) (W : World) (HG : GlobT W) :
    Calls Tryd.prog 11 #[.int .u16 a0] W fun e w' => e = .returned (.bool true) ∧ Below W.heap.size W w' := by
  have hy : wrap64 (1 + Int.tmod (wrap64 a0) 9999) = 1 + a0 % 9999 := by
    have e : wrap64 a0 = a0 := by unfold wrap64; omega
    rw [e, Int.tmod_eq_emod_of_nonneg h0]; unfold wrap64; omega
  obtain ⟨s, n, L, d30, d31, d32, d33, d36, d37, D, G⟩ := gaps_ok (1 + a0 % 9999) (by omega) (by omega)
  exact gaps_walk a0 _ s n L d30 d31 d32 d33 d36 d37 hy D G W HG
end Go.Proofs.YtflpddhoiafhcaaDoor.S
end
