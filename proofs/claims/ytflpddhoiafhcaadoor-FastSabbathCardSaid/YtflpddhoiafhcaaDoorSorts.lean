/- Events in order: by days, then by kinds. The one order of a list; plain, no program in sight. -/
namespace Go.Proofs.YtflpddhoiafhcaaDoor.Cal

/-- Does a kind on a day (kind, day) stand ahead of another one? -/
def ltE (x y : Int × Int) : Bool := decide (x.2 < y.2 ∨ (x.2 = y.2 ∧ x.1 < y.1))
def insE (x : Int × Int) : List (Int × Int) → List (Int × Int)
  | [] => [x]
  | y :: r => if ltE x y then x :: y :: r else y :: insE x r
def sortE : List (Int × Int) → List (Int × Int)
  | [] => []
  | x :: r => insE x (sortE r)
theorem ltE_total {x y : Int × Int} (h1 : ltE x y = false) (h2 : ltE y x = false) : x = y := by
  obtain ⟨a, b⟩ := x
  obtain ⟨c, d⟩ := y
  simp [ltE] at h1 h2
  simp only [Prod.mk.injEq]
  omega
theorem ltE_trans' {x y z : Int × Int} (h1 : ltE y x = false) (h2 : ltE z y = false) : ltE z x = false := by
  simp [ltE] at h1 h2 ⊢
  omega
theorem ltE_asymm {x y : Int × Int} (h : ltE x y = true) : ltE y x = false := by
  simp [ltE] at h ⊢
  omega
theorem insE_perm (x : Int × Int) : ∀ l, (insE x l).Perm (x :: l)
  | [] => List.Perm.refl _
  | y :: r => by
    unfold insE
    split
    · exact List.Perm.refl _
    · exact ((insE_perm x r).cons y).trans (List.Perm.swap x y r)
theorem sortE_perm : ∀ l, (sortE l).Perm l
  | [] => List.Perm.refl _
  | x :: r => (insE_perm x (sortE r)).trans ((sortE_perm r).cons x)
/-- In order: no later one stands ahead of an elder one. -/
def InOrder (l : List (Int × Int)) : Prop := l.Pairwise fun x y => ltE y x = false
theorem insE_order (x : Int × Int) : ∀ l, InOrder l → InOrder (insE x l)
  | [], _ => List.pairwise_singleton _ _
  | y :: r, h => by
    unfold insE
    have h' := List.pairwise_cons.1 h
    split
    · rename_i hxy
      refine List.pairwise_cons.2 ⟨fun z hz => ?_, h⟩
      rcases List.mem_cons.1 hz with rfl | hz
      · exact ltE_asymm hxy
      · exact ltE_trans' (ltE_asymm hxy) (h'.1 z hz)
    · rename_i hxy
      refine List.pairwise_cons.2 ⟨fun z hz => ?_, insE_order x r h'.2⟩
      rcases List.mem_cons.1 ((insE_perm x r).mem_iff.1 hz) with rfl | hz
      · simpa using hxy
      · exact h'.1 z hz
theorem sortE_order : ∀ l, InOrder (sortE l)
  | [] => List.Pairwise.nil
  | x :: r => insE_order x _ (sortE_order r)
/-- There is one order. -/
theorem order_one : ∀ {l m : List (Int × Int)}, InOrder l → InOrder m → l.Perm m → l = m
  | [], m, _, _, hp => (List.nil_perm.1 hp).symm
  | x :: l, [], _, _, hp => absurd hp.length_eq (by simp)
  | x :: l, y :: m, h, k, hp => by
    have h' := List.pairwise_cons.1 h
    have k' := List.pairwise_cons.1 k
    have e : x = y := by
      have hy : y ∈ x :: l := hp.mem_iff.2 (by simp)
      have hx : x ∈ y :: m := hp.mem_iff.1 (by simp)
      rcases List.mem_cons.1 hy with rfl | hy
      · rfl
      rcases List.mem_cons.1 hx with rfl | hx
      · rfl
      exact ltE_total (k'.1 x hx) (h'.1 y hy)
    subst e
    rw [order_one h'.2 k'.2 (List.Perm.cons_inv hp)]
theorem sortE_of {l m : List (Int × Int)} (h : InOrder m) (hp : m.Perm l) : m = sortE l := order_one h (sortE_order l) (hp.trans (sortE_perm l).symm)
theorem sortE_length (l : List (Int × Int)) : (sortE l).length = l.length := (sortE_perm l).length_eq
end Go.Proofs.YtflpddhoiafhcaaDoor.Cal
