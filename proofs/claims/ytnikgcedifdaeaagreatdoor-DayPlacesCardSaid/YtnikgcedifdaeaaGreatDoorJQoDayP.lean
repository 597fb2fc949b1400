/- Texts of the proof, joined by a program (of one law): contracts of functions, plain laws. -/
import Derived.Test.YtnikgcedifdaeaaGreatDoorJQoDayC
import Derived.Test.YtnikgcedifdaeaaGreatDoorJQoDayK
import Derived.Test.YtnikgcedifdaeaaGreatDoorJQoAwake25
set_option linter.unusedVariables false
set_option linter.unusedSimpArgs false
set_option linter.unusedSectionVars false
section
/- In both places a day has the same dates, weekday and count: the law. -/
set_option linter.unusedVariables false
set_option linter.unusedSimpArgs false
namespace Go.Proofs.YtnikgcedifdaeaaGreatDoor.Sab
open Go Go.Proofs.YtnikgcedifdaeaaGreatDoor.Ab
set_option maxRecDepth 100000
set_option maxHeartbeats 0
noncomputable section
abbrev fDayPlaces : Nat := 6
def zeroD : List AV := [iL 0, iL 0, iL 0, bL false, iL 0, iL 0, iL 0, iL 0, iL 0, iL 0]
def zeroR : List AV := [iL 0, iL 0, iL 0]
def aboutE (e : Int) : AV := .tuple [.agg (zeroD ++ .one :: zeroR), .int .i64 (.lit e)]
def mDE : Memo := [(fFromDay, [nE], .tuple [.agg [iL 0, iL 0, bL false, iL 0], iL 2])]
theorem day_out_chk : allB (fun pl => isX (aboutE 2) (base.goL vLow (memo mDE) noL 60 fDayOf [nE, iL pl]) && isX (aboutE 2) (base.goL vHigh (memo mDE) noL 60 fDayOf [nE, iL pl])) places = true := by kernel_rfl
def zeroDV : List Value := [iv 0, iv 0, iv 0, .bool false, iv 0, iv 0, iv 0, iv 0, iv 0, iv 0]
theorem day_out {n : Int} (h : Outside n) (pl : Int) (hp : pl ∈ places) : VX base fDayOf [iv n, iv pl] zeroDV [iv 0, iv 0, iv 0] 2 := by
  have hE : Memo.Ok base.P base.G (rho [n]) mDE := .cons ((from_out h).ans rfl rfl (by simp [conc1, conc0, den_n]) (by simp [conc, conc1, conc0, den_l])) .nil
  have c := allB_get day_out_chk pl hp
  rw [Bool.and_eq_true] at c
  have A : Ans base.P base.G (rho [n]) fDayOf [nE, iL pl] (aboutE 2) := by
    rcases h.2.2 with g | g
    · exact Base.ansXB (V := vLow) base_fit (env_ok (inB_cons h.1 (by omega) inB_nil) (by simp [vLow]) (by simp [vLow])) (OkO.memo hE) OkL.none c.1 rfl rfl
    · exact Base.ansXB (V := vHigh) base_fit (env_ok (inB_cons (by omega) h.2.1 inB_nil) (by simp [vHigh]) (by simp [vHigh])) (OkO.memo hE) OkL.none c.2 rfl rfl
  have X := A.vx (a1 := zeroD) (a2 := zeroR) (e := .lit 2) rfl rfl rfl
  simpa [zeroD, zeroR, zeroDV, conc1, conc0, den_n, den_l] using X
def big2 : Int × Int := (-2000000, 3000000)
def vDP2 : Ab.Env := ⟨[(-1373427, lastD), (1, 9999), (1, 12), (1, 30), (-5000, 8000), (1, 12), (1, 31), (0, 6), (0, 49), big2, big2, big2, big2, big2, big2], [], []⟩
def dHead (ad : Bool) : List AV := [iE 0 [(0, 1)], iE 0 [(1, 1)], iE 0 [(2, 1)], bL ad, iE 0 [(3, 1)], iE 0 [(4, 1)], iE 0 [(5, 1)], iE 0 [(6, 1)], iE 0 [(7, 1)], iE 0 [(8, 1)]]
def aboutD (ad : Bool) (i : Nat) : AV := .tuple [.agg (dHead ad ++ .one :: [iE 0 [(i, 1)], iE 0 [(i + 1, 1)], iE 0 [(i + 2, 1)]]), .int .i64 (.lit 0)]
def mAwk25 : Memo := [(fAwake25, [], bL true)]
def mDP (ad : Bool) : Memo := (fDayOf, [nE, iL 0], aboutD ad 9) :: (fDayOf, [nE, iL 1], aboutD ad 12) :: mAwk25
theorem dp_chk : allB (fun ad => isR (bL true) (base.go vDP2 (memo (mDP ad)) 60 fDayPlaces [nE])) bools = true := by kernel_rfl
def mDPE : Memo := (fDayOf, [nE, iL 0], aboutE 2) :: (fDayOf, [nE, iL 1], aboutE 2) :: mAwk25
theorem dpe_chk : (isR (bL true) (base.go vLow (memo mDPE) 60 fDayPlaces [nE]) && isR (bL true) (base.go vHigh (memo mDPE) 60 fDayPlaces [nE])) = true := by kernel_rfl
theorem mAwk25_ok (ρ : Nat → Int) : Memo.Ok base.P base.G ρ mAwk25 := .cons (awake25_vc.ans rfl rfl rfl rfl) .nil
theorem mon_of {t : Ty} (ht : t ∈ tyList) (o : Int) (o0 : 0 ≤ o) (o1 : o < tyLen t) : ∃ m ∈ mons t, m.a ≤ o ∧ o ≤ m.a + m.len - 1 := by
  have c2 := allB_get mons_num t ht
  simp only [Bool.and_eq_true, ile_iff] at c2
  have c := allB_get (allB_get mon_chk t ht) o (mem_daysN 390 o o0 (by simp; omega))
  cases hm : monOf o (mons t) with
  | none =>
    rw [hm] at c
    have : ile (tyLen t) o = false := by
      cases hb : ile (tyLen t) o with
      | false => rfl
      | true => rw [ile_iff] at hb; omega
    simp [this] at c
  | some m => exact ⟨m, monOf_ok hm⟩
theorem dayPlaces_law (n : Int) (n0 : minI ≤ n) (n1 : n ≤ maxI) : VC base fDayPlaces [iv n] (.bool true) := by
  by_cases hin : -1373427 ≤ n ∧ n ≤ lastD
  rotate_left
  · have h : Outside n := ⟨n0, n1, by omega⟩
    have hE : Memo.Ok base.P base.G (rho [n]) mDPE := by
      refine .cons ((day_out h 0 (by decide)).ans (a1 := zeroD) (a2 := zeroR) (e := .lit 2) rfl rfl rfl ?_ ?_ ?_ ?_) (.cons ((day_out h 1 (by decide)).ans (a1 := zeroD) (a2 := zeroR) (e := .lit 2) rfl rfl rfl ?_ ?_ ?_ ?_) (mAwk25_ok _))
      all_goals simp [zeroD, zeroR, zeroDV, conc1, conc0, den_n, den_l]
    have := (out_ans h (OkO.memo hE) dpe_chk rfl rfl).vc rfl rfl
    simpa [conc, conc1, conc0, den_n] using this
  obtain ⟨y, y0, y1, y2, y3⟩ := year_of n hin.1 hin.2
  obtain ⟨t, h⟩ := yt_of y y0 y1
  have hl := h.len
  obtain ⟨m, hm, ma, mb⟩ := mon_of h.mem (n - Cal.first y) (by omega) (by omega)
  obtain ⟨cy, cm, cd, hc⟩ := civ_of n hin.1 (by have := hin.2; unfold lastD at this; omega)
  obtain ⟨z1, z2, z3, z4, z5, z6⟩ := civ_bd hin.1 hin.2 hc
  have en : Cal.first y + (n - Cal.first y) = n := by omega
  obtain ⟨r1, r2, r3, a1, a2, a3, a4, a5, a6, va⟩ := day_vx days_chk_0 days_chk_1 (pl := 0) h (by decide) (by omega) (by omega) hm ma mb (by rw [en]; exact hc)
  obtain ⟨s1, s2, s3, b1, b2, b3, b4, b5, b6, vb⟩ := day_vx days_chk_0 days_chk_1 (pl := 1) h (by decide) (by omega) (by omega) hm ma mb (by rw [en]; exact hc)
  rw [en] at va vb
  have hb : m.ad ∈ bools := by cases m.ad <;> decide
  have nb := allB_get (of_ty mons_num h |> fun x => by simp only [Bool.and_eq_true] at x; exact x.1) m hm
  have lb := allB_get (of_ty mons_len h) m hm
  simp only [Bool.and_eq_true, ile_iff] at nb lb
  have ob := of_ty om_bd h
  simp only [Bool.and_eq_true, ile_iff] at ob
  have om0 : 0 ≤ omer t (n - Cal.first y) ∧ omer t (n - Cal.first y) ≤ 49 := by unfold omer; split <;> omega
  have hV : vDP2.Ok (rho [n, y, m.num, 1 + (n - Cal.first y - m.a), cy, cm, cd, n % 7, omer t (n - Cal.first y), r1, r2, r3, s1, s2, s3]) := env_ok (inB_cons hin.1 hin.2 (inB_cons y0 y1 (inB_cons nb.1 nb.2 (inB_cons (by omega) (by omega) (inB_cons (by omega) (by omega) (inB_cons z3 z4 (inB_cons z5 z6 (inB_cons (by omega) (by omega) (inB_cons om0.1 om0.2 (inB_cons (by omega) (by omega) (inB_cons (by omega) (by omega) (inB_cons a5 a6 (inB_cons (by omega) (by omega) (inB_cons (by omega) (by omega) (inB_cons b5 b6 inB_nil))))))))))))))) (by simp [vDP2]) (by simp [vDP2])
  have hE : Memo.Ok base.P base.G (rho [n, y, m.num, 1 + (n - Cal.first y - m.a), cy, cm, cd, n % 7, omer t (n - Cal.first y), r1, r2, r3, s1, s2, s3]) (mDP m.ad) := by
    refine .cons (va.ans (a1 := dHead m.ad) (a2 := [iE 0 [(9, 1)], iE 0 [(10, 1)], iE 0 [(11, 1)]]) (e := .lit 0) rfl rfl rfl ?_ ?_ ?_ ?_) (.cons (vb.ans (a1 := dHead m.ad) (a2 := [iE 0 [(12, 1)], iE 0 [(13, 1)], iE 0 [(14, 1)]]) (e := .lit 0) rfl rfl rfl ?_ ?_ ?_ ?_) (mAwk25_ok _))
    all_goals simp [dHead, conc1, conc0, Lin.den, denT, rho, Lin.lit]
  have := (Base.ansB base_fit hV (OkO.memo hE) (allB_get dp_chk _ hb) rfl rfl).vc rfl rfl
  simpa [conc, conc1, conc0, den_n] using this
end
end Go.Proofs.YtnikgcedifdaeaaGreatDoor.Sab
end
