/- What the printed Lean function of 'almanackerlaw20.FastSabbath' answers: true, in every year. -/
import Derived.Test.YtflpddhoiafhcaaDoorFFastList
import Derived.Test.YtflpddhoiafhcaaDoorFx10
namespace Go.Proofs.YtflpddhoiafhcaaDoor.F
open Go.RowKit Go.Proofs.YtflpddhoiafhcaaDoor.H
theorem ref_weekday_eq (a : Int) (h0 : -1152921504606846976 ≤ a) (h1 : a ≤ 1152921504606846976) : almanackerref04_Weekday.f a = some (a % 7) := by
  unfold almanackerref04_Weekday.f almanackerref01_Left.f
  rw [if_neg (by decide), Int.tmod_eq_emod]
  split
  · rw [if_neg (by omega)]; simp
  · rw [if_pos (by simp; omega)]
    simp only [Option.bind_some, Option.some.injEq]
    unfold wrap64
    simp
    omega
theorem rd_at (M : List (Int × Int)) (s i : Int) (h0 : 0 ≤ i) (h1 : i < (M.length : Int)) : rd_T48 (M.map (atDay s)) i = atDay s (M.getD i.toNat (0, 0)) := by
  unfold rd_T48
  have hi : i.toNat < M.length := by omega
  rw [List.getD_eq_getElem?_getD, List.getElem?_map, List.getElem?_eq_getElem hi, List.getD_eq_getElem?_getD, List.getElem?_eq_getElem hi]
  rfl
section
variable (M : List (Int × Int)) (s t : Int) (hst : s % 7 = t % 7) (hs : -3000000 ≤ s ∧ s ≤ 3000000) (ht : -3000000 ≤ t ∧ t ≤ 3000000) (hM : ∀ p ∈ M, -1000 ≤ p.2 ∧ p.2 ≤ 1000)
include hst hs ht hM
theorem week_same (i : Int) (h0 : 0 ≤ i) (h1 : i < (M.length : Int)) : almanackerref04_Weekday.f ((rd_T48 (M.map (atDay s)) i).f1) = almanackerref04_Weekday.f ((rd_T48 (M.map (atDay t)) i).f1) := by
  rw [rd_at M s i h0 h1, rd_at M t i h0 h1]
  have hi : i.toNat < M.length := by omega
  have hb := hM (M.getD i.toNat (0, 0)) (by rw [List.getD_eq_getElem?_getD, List.getElem?_eq_getElem hi]; exact List.getElem_mem hi)
  generalize M.getD i.toNat (0, 0) = p at *
  show almanackerref04_Weekday.f (s + p.2) = almanackerref04_Weekday.f (t + p.2)
  rw [ref_weekday_eq _ (by omega) (by omega), ref_weekday_eq _ (by omega) (by omega)]
  have : (s + p.2) % 7 = (t + p.2) % 7 := by rw [← Int.emod_add_emod s, ← Int.emod_add_emod t, hst]
  rw [this]
theorem fast_shift : ∀ k, (∀ i, almanackerlaw20_FastSabbath.l0 k (M.map (atDay s)) i = almanackerlaw20_FastSabbath.l0 k (M.map (atDay t)) i) ∧
    (∀ i w x, almanackerlaw20_FastSabbath.j2 k (M.map (atDay s)) i w x = almanackerlaw20_FastSabbath.j2 k (M.map (atDay t)) i w x) ∧
    (∀ i x, almanackerlaw20_FastSabbath.j3 k (M.map (atDay s)) i x = almanackerlaw20_FastSabbath.j3 k (M.map (atDay t)) i x) ∧
    (∀ i j, almanackerlaw20_FastSabbath.l1 k (M.map (atDay s)) i j = almanackerlaw20_FastSabbath.l1 k (M.map (atDay t)) i j)
  | 0 => ⟨fun _ => rfl, fun _ _ _ => rfl, fun _ _ => rfl, fun _ _ => rfl⟩
  | k + 1 => by
    obtain ⟨ih0, ih2, ih3, ih1⟩ := fast_shift k
    refine ⟨fun i => ?_, fun i w x => ?_, fun i x => ?_, fun i j => ?_⟩
    · rw [almanackerlaw20_FastSabbath.l0, almanackerlaw20_FastSabbath.l0, List.length_map, List.length_map]
      by_cases c1 : i < (M.length : Int)
      · rw [if_pos c1, if_pos c1]
        by_cases c2 : 0 ≤ i
        · rw [if_pos c2, if_pos c2, week_same M s t hst hs ht hM i c2 c1, rd_at M s i c2 c1, rd_at M t i c2 c1]
          simp only [ih2]
          rfl
        · rw [if_neg c2, if_neg c2]
      · rw [if_neg c1, if_neg c1]
    · rw [almanackerlaw20_FastSabbath.j2, almanackerlaw20_FastSabbath.j2, List.length_map, List.length_map]
      by_cases c0 : x = true
      · rw [if_pos c0, if_pos c0]
      rw [if_neg c0, if_neg c0]
      by_cases c2 : 0 ≤ i
      · rw [if_pos c2, if_pos c2]
        by_cases c1 : i < (M.length : Int)
        · rw [if_pos c1, if_pos c1, rd_at M s i c2 c1, rd_at M t i c2 c1]
          simp only [ih3]
          rfl
        · rw [if_neg c1, if_neg c1]
      · rw [if_neg c2, if_neg c2]
    · rw [almanackerlaw20_FastSabbath.j3, almanackerlaw20_FastSabbath.j3, ih1]
    · rw [almanackerlaw20_FastSabbath.l1, almanackerlaw20_FastSabbath.l1, List.length_map, List.length_map, ih0]
      by_cases c0 : j < i
      · rw [if_pos c0, if_pos c0]
        by_cases c1 : 0 ≤ j
        · rw [if_pos c1, if_pos c1]
          by_cases c2 : j < (M.length : Int)
          · rw [if_pos c2, if_pos c2]
            by_cases c3 : 0 ≤ i
            · rw [if_pos c3, if_pos c3]
              by_cases c4 : i < (M.length : Int)
              · rw [if_pos c4, if_pos c4, rd_at M s i c3 c4, rd_at M t i c3 c4, rd_at M s j c1 c2, rd_at M t j c1 c2, ih1]
                generalize M.getD i.toNat (0, 0) = p
                generalize M.getD j.toNat (0, 0) = q
                show (if q.1 = p.1 then _ else (if s + q.2 > s + p.2 then _ else _)) = (if q.1 = p.1 then _ else (if t + q.2 > t + p.2 then _ else _))
                by_cases c5 : q.2 > p.2
                · rw [if_pos (show s + q.2 > s + p.2 by omega), if_pos (show t + q.2 > t + p.2 by omega)]
                · rw [if_neg (show ¬ s + q.2 > s + p.2 by omega), if_neg (show ¬ t + q.2 > t + p.2 by omega)]
              · rw [if_neg c4, if_neg c4]
            · rw [if_neg c3, if_neg c3]
          · rw [if_neg c2, if_neg c2]
        · rw [if_neg c1, if_neg c1]
      · rw [if_neg c0, if_neg c0]
end
theorem fast_types : ∀ t ∈ Cal.tyList, (almanackerlaw20_FastSabbath.l0 300 ((fastList t.1 t.2.1 t.2.2).map (atDay t.1)) 0 = some true) ∧ (fastList t.1 t.2.1 t.2.2).length = 10 ∧ (∀ p ∈ fastList t.1 t.2.1 t.2.2, -1000 ≤ p.2 ∧ p.2 ≤ 1000) := by
  decide +kernel
theorem sabbath_true (a0 : Int) (h0 : 0 ≤ a0) (h1 : a0 ≤ 65535) : almanackerlaw20_FastSabbath.f 301 a0 = some true := by
  have hw : wrap64 a0 = a0 := by unfold wrap64; omega
  have hy : wrap64 (1 + Int.tmod (wrap64 a0) 9999) = 1 + a0 % 9999 := by
    rw [hw, Int.tmod_eq_emod_of_nonneg h0]; unfold wrap64; omega
  obtain ⟨y, hye⟩ : ∃ y, 1 + a0 % 9999 = y := ⟨_, rfl⟩
  have y0 : 1 ≤ y := by omega
  have y1 : y ≤ 9999 := by omega
  obtain ⟨b, k, l, ht, hb, hl, hlp⟩ := Cal.year_type y y0 y1
  obtain ⟨f1, f2, f3⟩ := fast_types (b, k, l) ht
  obtain ⟨a, c⟩ := first_bd y (by omega) (by omega)
  obtain ⟨_, _, b0, b1⟩ := kev_bd ht
  unfold almanackerlaw20_FastSabbath.f
  rw [hy, hye, fast_list y b k l y0 y1 ht hb hl hlp, Option.bind_some, if_pos rfl]
  simp only at f1 f2 f3
  have hlen : (((((fastList b k l).map (atDay (Cal.first y))).length : Nat) : Int) != 10) = false := by rw [List.length_map, f2]; rfl
  simp only [hlen]
  rw [almanackerlaw20_FastSabbath.j0, if_neg (by decide)]
  rw [(fast_shift (fastList b k l) (Cal.first y) b (by omega) ⟨by omega, by omega⟩ ⟨by omega, by omega⟩ f3 300).1]
  exact f1
end Go.Proofs.YtflpddhoiafhcaaDoor.F
