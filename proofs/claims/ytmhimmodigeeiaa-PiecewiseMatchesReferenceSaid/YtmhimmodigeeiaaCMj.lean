/- Part 10 of the base that the seat's proofs share: words, walks and plain laws. -/
import Derived.Test.YtmhimmodigeeiaaCMi
set_option linter.unusedVariables false
set_option linter.unusedSimpArgs false
section
namespace Go.Proofs.Ytmhimmodigeeiaa.P
open Go.RowKit Go.Proofs.YtmhimmodigeeiaaW.PrintWords Go.Proofs.YtmhimmodigeeiaaW.PrintLast Go.Proofs.YtmhimmodigeeiaaW.PrintMore
set_option linter.unusedVariables false
set_option linter.unusedSimpArgs false
open Classical
def IB (n : Int) : Prop := -9223372036854775808 ≤ n ∧ n ≤ 9223372036854775807
def IBP (p : PC) : Prop := IB p.f0 ∧ (IB p.f1.f0 ∧ IB p.f1.f1) ∧ (IB p.f2.f0 ∧ IB p.f2.f1)
theorem u64w (x : Int) : IntKind.u64.wrap x = x % 18446744073709551616 := by simp [IntKind.wrap, IntKind.bits, IntKind.signed]
theorem rsize_eq {a : Int} (h : IB a) : cohousingref01_size.f a = some (a.natAbs : Int) := by
 obtain ⟨h1, h2⟩ := h
 unfold cohousingref01_size.f
 split
 ·have e1 : wrap64 (a + 1) = a + 1 := by unfold wrap64; omega
  have e2 : wrap64 (-(a + 1)) = -(a + 1) := by unfold wrap64; omega
  rw [e1, e2, u64w, u64w]
  congr 1
  omega
 ·rw [u64w]
  congr 1
  omega
theorem wrap_neg {m : Int} (h : 0 ≤ m) (h' : m ≤ 1000000000) : wrap64 (-m) = -m := wrap_id (by omega) (by omega)
theorem make_ev {a b x y g : Int} (ha : IB a) (hb : IB b) (h1 : 1 ≤ b) (hg : 0 < g) (hgg : (Int.gcd a b : Int) = g) (hy : 0 < y) (ex : Int.tdiv (a.natAbs : Int) g = (x.natAbs : Int)) (ey : Int.tdiv b g = y) (hxa : x.natAbs ≤ a.natAbs) (hyb : y ≤ b) (hs1 : a < 0 → x < 0) (hs2 : 0 ≤ a → 0 ≤ x) :
  Ev (fun k => cohousingref01_Make.f k a b) (if (x.natAbs : Int) > 1000000000 ∨ y > 1000000000 then (0, 0, 3) else (x, y, 0)) := by
 have eb : (b.natAbs : Int) = b := by omega
 have hw1 : IntKind.u64.wrap (x.natAbs : Int) = (x.natAbs : Int) := by
  rw [u64w]
  obtain ⟨g1, g2⟩ := ha
  omega
 have hw2 : IntKind.u64.wrap y = y := by
  rw [u64w]
  obtain ⟨g1, g2⟩ := hb
  omega
 have hcom : Ev (fun k => cohousingref01_common.f k (a.natAbs : Int) (b.natAbs : Int)) g := ⟨b.toNat + 1, fun k hk => by
  show cohousingref01_common.l0 k _ _ = _
  rw [rcommon_l0 k _ _ (by omega) (by omega) (by omega), gcd_abs, eb, hgg]⟩
 have hb0 : ¬ b = 0 := by omega
 have hg0 : ¬ g = 0 := by omega
 have hb1 : ¬ b < 0 := by omega
 unfold cohousingref01_Make.f
 simp only [rsize_eq ha, rsize_eq hb, Option.bind_some, hb0, if_false]
 refine Ev.bnd hcom ?_
 simp only [hg0, if_false, ex, eb, ey, hw1, hw2]
 by_cases hx : (x.natAbs : Int) > 1000000000
 ·simp only [hx, if_true, true_or]
  refine Ev.step ?_
  simp only [cohousingref01_Make.j0, if_true]
  exact Ev.pure _
 by_cases hy2 : y > 1000000000
 ·simp only [hx, hy2, if_true, if_false, or_true, decide_true]
  refine Ev.step ?_
  simp only [cohousingref01_Make.j0, if_true]
  exact Ev.pure _
 simp only [hx, hy2, if_false, or_false, decide_false]
 refine Ev.step ?_
 have z1 : a < 0 → -(x.natAbs : Int) = x := fun h => by have := hs1 h; omega
 have z2 : ¬ a < 0 → (x.natAbs : Int) = x := fun h => by have := hs2 (by omega); omega
 have v1 : wrap64 (x.natAbs : Int) = (x.natAbs : Int) := wrap_id (by omega) (by omega)
 have v2 : wrap64 y = y := wrap_id (by omega) (by omega)
 have v3 : wrap64 (-(x.natAbs : Int)) = -(x.natAbs : Int) := wrap_neg (Int.natCast_nonneg _) (Int.not_lt.1 hx)
 by_cases hn : a < 0
 ·simp only [cohousingref01_Make.j0, Bool.false_eq_true, if_false, v1, v2, v3, hn, hb1, decide_true, decide_false, bne_iff_ne, ne_eq, Bool.true_eq_false, not_false_eq_true, if_true]
  rw [z1 hn]
  exact Ev.pure _
 ·simp only [cohousingref01_Make.j0, Bool.false_eq_true, if_false, v1, v2, hn, hb1, decide_false, bne_self_eq_false]
  rw [z2 hn]
  exact Ev.pure _
theorem rv_ref {a b : Int} (ha : IB a) (hb : IB b) : Ev (fun k => cohousingref01_Valid.f k a b) (decide (RV a b)) := by
 unfold cohousingref01_Valid.f
 by_cases h1 : b < 1
 ·simp only [h1, if_true]
  rw [decide_eq_false (fun h => by have := h.1; omega)]
  exact Ev.pure _
 simp only [h1, if_false]
 have hd : 0 < b := by omega
 have hg := red_pos (n := a) hd
 have e1 := red_n (n := a) (d := b)
 have e2 := red_d (n := a) (d := b)
 have e3 := red_den (n := a) hd
 have e4 := red_small (n := a) hd
 have e5 := red_gcd (n := a) hd
 have e6 : RV a b → red a b = (a, b) := fun h => red_id hd h.2.2.2.2
 have ey : Int.tdiv b (Int.gcd a b : Int) = (red a b).2 := (tdiv_red hd).2
 generalize hx : (red a b).1 = x at *
 generalize hy : (red a b).2 = y at *
 generalize hgg : (Int.gcd a b : Int) = g at *
 have ex : Int.tdiv (a.natAbs : Int) g = (x.natAbs : Int) := by
  have h5 : (a.natAbs : Int) = (x.natAbs : Int) * g := by
   have h6 := congrArg Int.natAbs e1
   rw [Int.natAbs_mul] at h6
   rw [← h6, Int.natCast_mul]
   congr 1
   omega
  rw [h5, Int.mul_tdiv_cancel _ (by omega)]
 refine Ev.bnd (make_ev (x := x) (y := y) ha hb (by omega) hg hgg e3 ex ey e4.1 e4.2 (fun hn => ?_) (fun hn => ?_)) ?_
 ·rcases Int.lt_or_le x 0 with h | h
  ·exact h
  ·have := Int.mul_nonneg h (show 0 ≤ g by omega)
   omega
 ·rcases Int.lt_or_le x 0 with h | h
  ·have := Int.mul_neg_of_neg_of_pos h hg
   omega
  ·exact h
 by_cases hc : (x.natAbs : Int) > 1000000000 ∨ y > 1000000000
 ·have z : ((3 : Int) = 0) = False := by simp
  simp only [hc, if_true, z, if_false]
  rw [decide_eq_false (fun h : RV a b => by
   obtain ⟨q1, q2, q3, q4, _⟩ := h
   rcases hc with hc | hc <;> omega)]
  exact Ev.pure _
 ·simp only [hc, if_false, if_true]
  have : (x == a && y == b) = decide (RV a b) := by
   rw [Bool.eq_iff_iff]
   simp only [Bool.and_eq_true, beq_iff_eq, decide_eq_true_eq]
   constructor
   ·rintro ⟨q1, q2⟩
    subst q1
    subst q2
    exact ⟨by omega, by omega, by omega, by omega, e5⟩
   ·intro h
    have h7 := e6 h
    exact ⟨by rw [← hx, h7], by rw [← hy, h7]⟩
  rw [this]
  exact Ev.pure _
def POk (p : PC) : Prop := RV p.f1.f0 p.f1.f1 ∧ RV p.f2.f0 p.f2.f1 ∧ p.f1.f1 ≤ 100 ∧ p.f2.f1 ≤ 100 ∧ -100000 ≤ p.f2.f0 ∧ p.f2.f0 ≤ 100000
theorem numbers_eq (p : PC) : piecewise_numbers.f p.f0 p.f1.f0 p.f1.f1 p.f2.f0 p.f2.f1 = some (decide (POk p)) := by
 unfold piecewise_numbers.f
 rw [rvalid_eq, rvalid_eq]
 simp only [Option.bind_some, decide_eq_true_eq]
 by_cases h1 : RV p.f1.f0 p.f1.f1
 case neg => rw [if_neg h1, decide_eq_false (fun h => h1 h.1)]
 by_cases h2 : RV p.f2.f0 p.f2.f1
 case neg => rw [if_pos h1, if_neg h2, decide_eq_false (fun h => h2 h.2.1)]
 by_cases h3 : p.f1.f1 ≤ 100
 case neg => rw [if_pos h1, if_pos h2, if_neg h3, decide_eq_false (fun h => h3 h.2.2.1)]
 by_cases h4 : p.f2.f1 ≤ 100
 case neg => rw [if_pos h1, if_pos h2, if_pos h3, if_neg h4, decide_eq_false (fun h => h4 h.2.2.2.1)]
 rw [if_pos h1, if_pos h2, if_pos h3, if_pos h4, mx_abs (by have := h2.2.2.1; omega) (by have := h2.2.2.2.1; omega)]
 congr 1
 rw [Bool.eq_iff_iff]
 simp only [decide_eq_true_eq]
 constructor
 ·intro h
  exact ⟨h1, h2, h3, h4, by omega, by omega⟩
 ·intro h
  have := h.2.2.2.2
  omega
theorem numB_eq (p : PC) : numB p = some (decide (POk p)) := numbers_eq p
abbrev pA (f : List PC) (i : Nat) : PC := rd_T51 f (i : Int)
def VOk (f : List PC) (i : Nat) : Prop := (0 < i → (pA f (i - 1)).f0 < (pA f i).f0) ∧ POk (pA f i)
structure FOk (f : List PC) : Prop where
 one : 1 ≤ f.length
 few : f.length ≤ 64
 zero : (pA f 0).f0 = 0
 ok : ∀ i, i < f.length → VOk f i
 end_ : (pA f (f.length - 1)).f0 ≤ 100000
theorem FOk.rise {f : List PC} (h : FOk f) : ∀ (d i : Nat), i + d < f.length → (pA f i).f0 + d ≤ (pA f (i + d)).f0
 | 0, i, _ => by simp
 | d + 1, i, hi => by
  have h1 := FOk.rise h d i (by omega)
  have h2 := (h.ok (i + (d + 1)) hi).1 (by omega)
  rw [show i + (d + 1) - 1 = i + d by omega] at h2
  omega
theorem FOk.lt {f : List PC} (h : FOk f) {i j : Nat} (hij : i < j) (hj : j < f.length) : (pA f i).f0 < (pA f j).f0 := by
 have := h.rise (j - i) i (by omega)
 rw [show i + (j - i) = j by omega] at this
 omega
theorem FOk.in_ {f : List PC} (h : FOk f) {i : Nat} (hi : i < f.length) : 0 ≤ (pA f i).f0 ∧ (pA f i).f0 ≤ 100000 := by
 have h1 := h.rise i 0 (by omega)
 have h2 := h.rise (f.length - 1 - i) i (by omega)
 rw [Nat.zero_add] at h1
 rw [show i + (f.length - 1 - i) = f.length - 1 by omega] at h2
 have := h.zero
 have := h.end_
 omega
theorem valid_l0 (f : List PC) (hB : f.length ≤ 64) : ∀ (d i k : Nat), i + d = f.length → d < k → piecewise_Valid.l0 k f f (f.length : Int) (i : Int) = some (decide (∀ j, i ≤ j → j < f.length → VOk f j)) := by
 intro d
 induction d with
 | zero =>
  intro i k hi hk
  obtain ⟨k, rfl⟩ : ∃ m, k = m + 1 := ⟨k - 1, by omega⟩
  have h1 : ¬ ((i : Int) < (f.length : Int)) := by omega
  simp only [piecewise_Valid.l0, h1, if_false]
  rw [decide_eq_true (fun j h2 h3 => by omega)]
 | succ d ih =>
  intro i k hi hk
  obtain ⟨k, rfl⟩ : ∃ m, k = m + 1 := ⟨k - 1, by omega⟩
  have h1 : (i : Int) < (f.length : Int) := by omega
  have h2 : 0 ≤ (i : Int) := by omega
  have hn := numbers_eq (pA f i)
  have hih := ih (i + 1) k (by omega) (by omega)
  have ew : wrap64 ((i : Int) + 1) = ((i + 1 : Nat) : Int) := by unfold wrap64; omega
  have key : (∀ j, i ≤ j → j < f.length → VOk f j) ↔ VOk f i ∧ ∀ j, i + 1 ≤ j → j < f.length → VOk f j := by
   constructor
   ·intro h
    exact ⟨h i (Nat.le_refl _) (by omega), fun j h3 h4 => h j (by omega) h4⟩
   ·rintro ⟨h3, h4⟩ j h5 h6
    rcases Nat.eq_or_lt_of_le h5 with rfl | h
    ·exact h3
    ·exact h4 j h h6
  by_cases hz : 0 < i
  ·have e3 : (i : Int) > 0 := by omega
   have e4 : wrap64 ((i : Int) - 1) = ((i - 1 : Nat) : Int) := by unfold wrap64; omega
   have e5 : 0 ≤ ((i - 1 : Nat) : Int) := by omega
   have e6 : ((i - 1 : Nat) : Int) < (f.length : Int) := by omega
   simp only [piecewise_Valid.l0, h1, h2, e3, e4, e5, e6, if_true]
   by_cases hle : (pA f i).f0 ≤ (pA f (i - 1)).f0
   ·rw [if_pos hle, decide_eq_false (fun h => by have := (h i (Nat.le_refl _) (by omega)).1 hz; omega)]
   ·rw [if_neg hle, hn, ew]
    simp only [Option.bind_some, decide_eq_true_eq]
    by_cases hp : POk (pA f i)
    ·rw [if_pos hp, hih]
     congr 1
     rw [decide_eq_decide]
     rw [key]
     exact ⟨fun h => ⟨⟨fun _ => by omega, hp⟩, h⟩, fun h => h.2⟩
    ·rw [if_neg hp, decide_eq_false (fun h => hp (h i (Nat.le_refl _) (by omega)).2)]
  ·have e3 : ¬ (i : Int) > 0 := by omega
   simp only [piecewise_Valid.l0, h1, h2, e3, if_true, if_false]
   rw [hn, ew]
   simp only [Option.bind_some, decide_eq_true_eq]
   by_cases hp : POk (pA f i)
   ·rw [if_pos hp, hih]
    congr 1
    rw [decide_eq_decide]
    rw [key]
    exact ⟨fun h => ⟨⟨fun h => absurd h hz, hp⟩, h⟩, fun h => h.2⟩
   ·rw [if_neg hp, decide_eq_false (fun h => hp (h i (Nat.le_refl _) (by omega)).2)]
theorem valid_eq (f : List PC) {k : Nat} (hk : 100 ≤ k) : piecewise_Valid.f k f = some (decide (FOk f)) := by
 obtain ⟨k, rfl⟩ : ∃ m, k = m + 1 := ⟨k - 1, by omega⟩
 unfold piecewise_Valid.f
 by_cases h1 : (f.length : Int) = 0
 ·rw [if_pos h1, decide_eq_false (fun h => by have := h.one; omega)]
  rfl
 rw [if_neg h1]
 by_cases h2 : (f.length : Int) > 64
 ·rw [if_pos h2, decide_eq_false (fun h => by have := h.few; omega)]
  rfl
 rw [if_neg h2, if_pos (by omega)]
 by_cases h3 : (rd_T51 f 0).f0 = 0
 case neg =>
  rw [if_neg h3, decide_eq_false (fun h => h3 h.zero)]
  rfl
 have e4 : wrap64 ((f.length : Int) - 1) = ((f.length - 1 : Nat) : Int) := by unfold wrap64; omega
 rw [if_pos h3, e4, if_pos (by omega), if_pos (by omega)]
 by_cases h4 : (pA f (f.length - 1)).f0 > 100000
 ·rw [decide_eq_true h4, decide_eq_false (fun h => by have := h.end_; omega)]
  rfl
 ·rw [decide_eq_false h4]
  show piecewise_Valid.j0 (k + 1) f false = _
  simp only [piecewise_Valid.j0, Bool.false_eq_true, if_false]
  have := valid_l0 f (by omega) f.length 0 k (by omega) (by omega)
  rw [show ((0 : Nat) : Int) = 0 from rfl] at this
  rw [this]
  congr 1
  rw [decide_eq_decide]
  constructor
  ·intro h
   exact ⟨by omega, by omega, h3, fun i hi => h i (Nat.zero_le _) hi, by omega⟩
  ·intro h j _ hj
   exact h.ok j hj
def VOr (f : List PC) (i : Nat) : Prop := ((0 < i → (pA f (i - 1)).f0 < (pA f i).f0) ∧ (pA f i).f0 ≤ 100000) ∧ POk (pA f i)
theorem rvalid_j2 (f : List PC) (hI : ∀ p ∈ f, IBP p) (i : Nat) (hi : i < f.length) (hB : f.length ≤ 64) (r : Bool) (hr : Ev (fun k => cohousingref05_Valid.l0 k f ((i + 1 : Nat) : Int)) r) : Ev (fun k => cohousingref05_Valid.j2 k f (i : Int) false) (decide (POk (pA f i)) && r) := by
 have hib : IBP (pA f i) := by
  have e : pA f i = f[i] := by simp [pA, rd_T51, List.getD_eq_getElem?_getD, hi]
  rw [e]
  exact hI _ (List.getElem_mem hi)
 have h1 : (i : Int) < (f.length : Int) := by omega
 have h2 : 0 ≤ (i : Int) := by omega
 have ew : wrap64 ((i : Int) + 1) = ((i + 1 : Nat) : Int) := by unfold wrap64; omega
 refine Ev.step ?_
 simp only [cohousingref05_Valid.j2, Bool.false_eq_true, if_false, h1, h2, if_true, ew]
 refine Ev.bnd (rv_ref hib.2.1.1 hib.2.1.2) ?_
 refine Ev.bnd (rv_ref hib.2.2.1 hib.2.2.2) ?_
 simp only [decide_eq_true_eq]
 by_cases c1 : RV (pA f i).f1.f0 (pA f i).f1.f1
 case neg =>
  rw [decide_eq_false (fun h : POk _ => c1 h.1)]
  exact Ev.congr (fun k => if_neg c1) (Ev.pure _)
 refine Ev.congr (fun k => if_pos c1) ?_
 by_cases c2 : RV (pA f i).f2.f0 (pA f i).f2.f1
 case neg =>
  rw [decide_eq_false (fun h : POk _ => c2 h.2.1)]
  exact Ev.congr (fun k => if_neg c2) (Ev.pure _)
 refine Ev.congr (fun k => if_pos c2) ?_
 by_cases c3 : (pA f i).f1.f1 > 100
 ·rw [decide_eq_false (fun h : POk _ => by have := h.2.2.1; omega)]
  exact Ev.congr (fun k => if_pos c3) (Ev.pure _)
 refine Ev.congr (fun k => if_neg c3) ?_
 by_cases c4 : (pA f i).f2.f1 > 100
 ·rw [decide_eq_false (fun h : POk _ => by have := h.2.2.2.1; omega)]
  exact Ev.congr (fun k => if_pos c4) (Ev.pure _)
 refine Ev.congr (fun k => if_neg c4) ?_
 by_cases c5 : (pA f i).f2.f0 > 100000
 ·rw [decide_eq_false (fun h : POk _ => by have := h.2.2.2.2.2; omega)]
  exact Ev.congr (fun k => if_pos c5) (Ev.pure _)
 refine Ev.congr (fun k => if_neg c5) ?_
 by_cases c6 : (pA f i).f2.f0 < -100000
 ·rw [decide_eq_false (fun h : POk _ => by have := h.2.2.2.2.1; omega)]
  exact Ev.congr (fun k => if_pos c6) (Ev.pure _)
 refine Ev.congr (fun k => if_neg c6) ?_
 rw [decide_eq_true (show POk (pA f i) from ⟨c1, c2, by omega, by omega, by omega, by omega⟩), Bool.true_and]
 exact hr
theorem rvalid_l0 (f : List PC) (hI : ∀ p ∈ f, IBP p) (hB : f.length ≤ 64) : ∀ (d i : Nat), i + d = f.length → Ev (fun k => cohousingref05_Valid.l0 k f (i : Int)) (decide (∀ j, i ≤ j → j < f.length → VOr f j)) := by
 intro d
 induction d with
 | zero =>
  intro i hi
  have h1 : ¬ ((i : Int) < (f.length : Int)) := by omega
  refine Ev.step ?_
  simp only [cohousingref05_Valid.l0, h1, if_false]
  rw [decide_eq_true (fun j h2 h3 => by omega)]
  exact Ev.pure _
 | succ d ih =>
  intro i hi
  have h1 : (i : Int) < (f.length : Int) := by omega
  have h2 : 0 ≤ (i : Int) := by omega
  have hih := rvalid_j2 f hI i (by omega) hB _ (ih (i + 1) (by omega))
  have key : (∀ j, i ≤ j → j < f.length → VOr f j) ↔ VOr f i ∧ ∀ j, i + 1 ≤ j → j < f.length → VOr f j := by
   constructor
   ·intro h
    exact ⟨h i (Nat.le_refl _) (by omega), fun j h3 h4 => h j (by omega) h4⟩
   ·rintro ⟨h3, h4⟩ j h5 h6
    rcases Nat.eq_or_lt_of_le h5 with rfl | h
    ·exact h3
    ·exact h4 j h h6
  have bad : (¬ ((0 < i → (pA f (i - 1)).f0 < (pA f i).f0) ∧ (pA f i).f0 ≤ 100000)) → Ev (fun k => cohousingref05_Valid.j2 k f (i : Int) true) (decide (∀ j, i ≤ j → j < f.length → VOr f j)) := fun hb => by
   refine Ev.step ?_
   simp only [cohousingref05_Valid.j2, if_true]
   rw [decide_eq_false (fun h => hb (h i (Nat.le_refl _) (by omega)).1)]
   exact Ev.pure _
  have good : ((0 < i → (pA f (i - 1)).f0 < (pA f i).f0) ∧ (pA f i).f0 ≤ 100000) → Ev (fun k => cohousingref05_Valid.j2 k f (i : Int) false) (decide (∀ j, i ≤ j → j < f.length → VOr f j)) := fun hb => by
   have e : decide (∀ j, i ≤ j → j < f.length → VOr f j) = (decide (POk (pA f i)) && decide (∀ j, i + 1 ≤ j → j < f.length → VOr f j)) := by
    rw [Bool.eq_iff_iff]
    simp only [Bool.and_eq_true, decide_eq_true_eq]
    rw [key]
    exact ⟨fun h => ⟨h.1.2, h.2⟩, fun h => ⟨⟨hb, h.1⟩, h.2⟩⟩
   rw [e]
   exact hih
  refine Ev.step ?_
  by_cases hz : 0 < i
  ·have e3 : (i : Int) > 0 := by omega
   have e4 : wrap64 ((i : Int) - 1) = ((i - 1 : Nat) : Int) := by unfold wrap64; omega
   have e5 : 0 ≤ ((i - 1 : Nat) : Int) := by omega
   have e6 : ((i - 1 : Nat) : Int) < (f.length : Int) := by omega
   simp only [cohousingref05_Valid.l0, h1, h2, e3, e4, e5, e6, if_true]
   by_cases hle : (pA f i).f0 ≤ (pA f (i - 1)).f0
   ·refine Ev.congr (fun k => if_pos hle) (bad (fun h => by have := h.1 hz; omega))
   ·refine Ev.congr (fun k => if_neg hle) ?_
    by_cases hm : (pA f i).f0 > 100000
    ·rw [decide_eq_true hm]
     exact bad (fun h => by omega)
    ·rw [decide_eq_false hm]
     exact good ⟨fun _ => by omega, by omega⟩
  ·have e3 : ¬ (i : Int) > 0 := by omega
   simp only [cohousingref05_Valid.l0, h1, h2, e3, if_true, if_false]
   by_cases hm : (pA f i).f0 > 100000
   ·rw [decide_eq_true hm]
    exact bad (fun h => by omega)
   ·rw [decide_eq_false hm]
    exact good ⟨fun h => absurd h hz, by omega⟩
theorem rvalid_ev (f : List PC) (hI : ∀ p ∈ f, IBP p) : Ev (fun k => cohousingref05_Valid.f k f) (decide (FOk f)) := by
 unfold cohousingref05_Valid.f
 have bad : ¬ FOk f → Ev (fun k => cohousingref05_Valid.j0 k f true) (decide (FOk f)) := fun hb => by
  refine Ev.step ?_
  simp only [cohousingref05_Valid.j0, if_true]
  rw [decide_eq_false hb]
  exact Ev.pure _
 by_cases h1 : (f.length : Int) < 1
 ·exact Ev.congr (fun k => if_pos h1) (bad (fun h => by have := h.one; omega))
 refine Ev.congr (fun k => if_neg h1) ?_
 by_cases h2 : (f.length : Int) > 64
 ·exact Ev.congr (fun k => if_pos h2) (bad (fun h => by have := h.few; omega))
 refine Ev.congr (fun k => if_neg h2) (Ev.congr (fun k => if_pos (by omega)) ?_)
 by_cases h3 : (rd_T51 f 0).f0 = 0
 case neg =>
  rw [show ((rd_T51 f 0).f0 != 0) = true by simpa using h3]
  exact bad (fun h => h3 h.zero)
 rw [show ((rd_T51 f 0).f0 != 0) = false by simpa using h3]
 refine Ev.step ?_
 simp only [cohousingref05_Valid.j0, Bool.false_eq_true, if_false]
 have := rvalid_l0 f hI (by omega) f.length 0 (by omega)
 have e : decide (FOk f) = decide (∀ j, 0 ≤ j → j < f.length → VOr f j) := by
  rw [decide_eq_decide]
  constructor
  ·intro h j _ hj
   exact ⟨⟨(h.ok j hj).1, (h.in_ hj).2⟩, (h.ok j hj).2⟩
  ·intro h
   exact ⟨by omega, by omega, h3, fun i hi => ⟨(h i (Nat.zero_le _) hi).1.1, (h i (Nat.zero_le _) hi).2⟩, (h (f.length - 1) (Nat.zero_le _) (by omega)).1.2⟩
 rw [e]
 exact this
end Go.Proofs.Ytmhimmodigeeiaa.P
end
section
namespace Go.Proofs.Ytmhimmodigeeiaa.P
open Go.RowKit Go.Proofs.YtmhimmodigeeiaaW.PrintWords Go.Proofs.YtmhimmodigeeiaaW.PrintLast Go.Proofs.YtmhimmodigeeiaaW.PrintMore
set_option linter.unusedVariables false
set_option linter.unusedSimpArgs false
open Classical
theorem mul_in {a b A B : Int} (h1 : -A ≤ a) (h2 : a ≤ A) (h3 : -B ≤ b) (h4 : b ≤ B) : -(A * B) ≤ a * b ∧ a * b ≤ A * B := by
 have e1 : a.natAbs ≤ A.natAbs := by omega
 have e2 : b.natAbs ≤ B.natAbs := by omega
 have e3 := Nat.mul_le_mul e1 e2
 rw [← Int.natAbs_mul, ← Int.natAbs_mul] at e3
 have e4 : 0 ≤ A * B := Int.mul_nonneg (by omega) (by omega)
 omega
theorem mul_pos_in {a b A B : Int} (h1 : 1 ≤ a) (h2 : a ≤ A) (h3 : 1 ≤ b) (h4 : b ≤ B) : 1 ≤ a * b ∧ a * b ≤ A * B := by
 have h5 := Int.mul_pos (show 0 < a by omega) (show 0 < b by omega)
 have h6 := (mul_in (show -A ≤ a by omega) h2 (show -B ≤ b by omega) h4).2
 exact ⟨by omega, h6⟩
def num (l : LN) (x : Int) : Int := l.n + l.s * (x - l.fr)
structure LB (l : LN) : Prop where
 n1 : -100000000000 ≤ l.n
 n2 : l.n ≤ 100000000000
 s1 : -10000000 ≤ l.s
 s2 : l.s ≤ 10000000
 d1 : 1 ≤ l.d
 d2 : l.d ≤ 10000
 f1 : 0 ≤ l.fr
 f2 : l.fr ≤ 100000
structure WB (l : LN) : Prop where
 n1 : -25000000000000000 ≤ l.n
 n2 : l.n ≤ 25000000000000000
 s1 : -210000000000 ≤ l.s
 s2 : l.s ≤ 210000000000
 d1 : 1 ≤ l.d
 d2 : l.d ≤ 100000000
 f1 : 0 ≤ l.fr
 f2 : l.fr ≤ 100000
theorem LB.w {l : LN} (h : LB l) : WB l := by
 obtain ⟨h1, h2, h3, h4, h5, h6, h7, h8⟩ := h
 constructor <;> omega
theorem LB.num_in {l : LN} (h : LB l) {x : Int} (h0 : 0 ≤ x) (h1 : x ≤ 100001) : -1200000000000 ≤ num l x ∧ num l x ≤ 1200000000000 := by
 have h2 := mul_in h.s1 h.s2 (show -100001 ≤ x - l.fr by have := h.f1; have := h.f2; omega) (show x - l.fr ≤ 100001 by have := h.f1; omega)
 have := h.n1
 have := h.n2
 unfold num
 omega
theorem WB.num_in {l : LN} (h : WB l) {x : Int} (h0 : 0 ≤ x) (h1 : x ≤ 100001) : -50000000000000000 ≤ num l x ∧ num l x ≤ 50000000000000000 := by
 have h2 := mul_in h.s1 h.s2 (show -100001 ≤ x - l.fr by have := h.f1; have := h.f2; omega) (show x - l.fr ≤ 100001 by have := h.f1; omega)
 have := h.n1
 have := h.n2
 unfold num
 omega
theorem atL_eq {l : LN} (h : WB l) {x : Int} (h0 : 0 ≤ x) (h1 : x ≤ 100001) : atL l x = num l x := by
 have h2 := mul_in h.s1 h.s2 (show -100001 ≤ x - l.fr by have := h.f1; have := h.f2; omega) (show x - l.fr ≤ 100001 by have := h.f1; omega)
 have h3 := h.num_in h0 h1
 unfold num at h3 ⊢
 have h4 := h.f1
 have h5 := h.f2
 unfold atL
 rw [wrap_id (n := x - l.fr) (by omega) (by omega), wrap_id (n := l.s * (x - l.fr)) (by omega) (by omega), wrap_id (by omega) (by omega)]
theorem lessB_eq {l m : LN} (hl : LB l) (hm : LB m) {x : Int} (h0 : 0 ≤ x) (h1 : x ≤ 100001) : lessB l m x = decide (num l x * m.d < num m x * l.d) := by
 have a1 := hl.num_in h0 h1
 have a2 := hm.num_in h0 h1
 have b1 := mul_in a1.1 a1.2 (show -10000 ≤ m.d by have := hm.d1; omega) hm.d2
 have b2 := mul_in a2.1 a2.2 (show -10000 ≤ l.d by have := hl.d1; omega) hl.d2
 unfold lessB
 rw [atL_eq hl.w h0 h1, atL_eq hm.w h0 h1, wrap_id (by omega) (by omega), wrap_id (by omega) (by omega)]
theorem lineL_eq {p : PC} (h : POk p) : lineL p = ⟨p.f1.f0 * p.f2.f1, p.f2.f0 * p.f1.f1, p.f1.f1 * p.f2.f1, p.f0⟩ := by
 obtain ⟨⟨a1, a2, a3, a4, a5⟩, ⟨b1, b2, b3, b4, b5⟩, c1, c2, c3, c4⟩ := h
 have e1 := mul_in a3 a4 (show -100 ≤ p.f2.f1 by omega) c2
 have e2 := mul_in c3 c4 (show -100 ≤ p.f1.f1 by omega) c1
 have e3 := mul_pos_in a1 c1 b1 c2
 unfold lineL
 rw [wrap_id (by omega) (by omega), wrap_id (by omega) (by omega), wrap_id (by omega) (by omega)]
theorem lineL_LB {p : PC} (h : POk p) (h0 : 0 ≤ p.f0) (h1 : p.f0 ≤ 100000) : LB (lineL p) := by
 rw [lineL_eq h]
 obtain ⟨⟨a1, a2, a3, a4, a5⟩, ⟨b1, b2, b3, b4, b5⟩, c1, c2, c3, c4⟩ := h
 have e1 := mul_in a3 a4 (show -100 ≤ p.f2.f1 by omega) c2
 have e2 := mul_in c3 c4 (show -100 ≤ p.f1.f1 by omega) c1
 have e3 := mul_pos_in a1 c1 b1 c2
 refine ⟨?_, ?_, ?_, ?_, ?_, ?_, ?_, ?_⟩ <;> dsimp only <;> omega
def pc (l : LN) (x : Int) : PC := ⟨x, ⟨(red (num l x) l.d).1, (red (num l x) l.d).2⟩, ⟨(red l.s l.d).1, (red l.s l.d).2⟩⟩
def same (l m : LN) : Prop := ∀ x, num l x * m.d = num m x * l.d
theorem num_at (l : LN) (x y : Int) : num l y = num l x + l.s * (y - x) := by
 unfold num
 rw [show y - l.fr = (x - l.fr) + (y - x) by omega, Int.mul_add]
 omega
theorem same_of {l m : LN} {x : Int} (h1 : num l x * m.d = num m x * l.d) (h2 : l.s * m.d = m.s * l.d) : same l m := by
 intro y
 rw [num_at l x y, num_at m x y, Int.add_mul, Int.add_mul, h1]
 have e1 : l.s * (y - x) * m.d = l.s * m.d * (y - x) := by rw [Int.mul_assoc, Int.mul_comm (y - x), ← Int.mul_assoc]
 have e2 : m.s * (y - x) * l.d = m.s * l.d * (y - x) := by rw [Int.mul_assoc, Int.mul_comm (y - x), ← Int.mul_assoc]
 rw [e1, e2, h2]
theorem same_slope {l m : LN} (h : same l m) : l.s * m.d = m.s * l.d := by
 have h0 := h 0
 have h1 := h 1
 rw [num_at l 0 1, num_at m 0 1, Int.add_mul, Int.add_mul] at h1
 simp only [Int.sub_zero, Int.mul_one] at h1
 omega
theorem rat_ext {a b : RT} (h0 : a.f0 = b.f0) (h1 : a.f1 = b.f1) : a = b := by
 cases a; cases b; simp_all
theorem pc_ext {p q : PC} (h0 : p.f0 = q.f0) (h1 : p.f1 = q.f1) (h2 : p.f2 = q.f2) : p = q := by
 cases p; cases q; simp_all
theorem pc_iff {l m : LN} (hl : 0 < l.d) (hm : 0 < m.d) (x : Int) : pc l x = pc m x ↔ same l m := by
 constructor
 ·intro h
  have h1 : red (num l x) l.d = red (num m x) m.d := Prod.ext (congrArg (fun p : PC => p.f1.f0) h) (congrArg (fun p : PC => p.f1.f1) h)
  have h2 : red l.s l.d = red m.s m.d := Prod.ext (congrArg (fun p : PC => p.f2.f0) h) (congrArg (fun p : PC => p.f2.f1) h)
  exact same_of ((red_iff hl hm).1 h1) ((red_iff hl hm).1 h2)
 ·intro h
  unfold pc
  rw [(red_iff hl hm).2 (h x), (red_iff hl hm).2 (same_slope h)]
theorem same_symm {l m : LN} (h : same l m) : same m l := fun x => (h x).symm
theorem same_trans {l m n : LN} (hm : 0 < m.d) (h1 : same l m) (h2 : same m n) : same l n := by
 intro x
 apply Int.eq_of_mul_eq_mul_right (a := m.d) (by omega)
 calc num l x * n.d * m.d = num l x * m.d * n.d := by rw [Int.mul_assoc, Int.mul_comm n.d, ← Int.mul_assoc]
  _ = num m x * l.d * n.d := by rw [h1 x]
  _ = num m x * n.d * l.d := by rw [Int.mul_assoc, Int.mul_comm l.d, ← Int.mul_assoc]
  _ = num n x * m.d * l.d := by rw [h2 x]
  _ = num n x * l.d * m.d := by rw [Int.mul_assoc, Int.mul_comm m.d, ← Int.mul_assoc]
theorem eqP_iff (p q : PC) : eqP p q = true ↔ p = q := by
 unfold eqP
 simp only [Bool.and_eq_true, beq_iff_eq]
 constructor
 ·rintro ⟨h0, ⟨h1, h2⟩, h3, h4⟩
  exact pc_ext h0 (rat_ext h1 h2) (rat_ext h3 h4)
 ·rintro rfl
  simp
theorem pieceO_eq {l : LN} (h : WB l) {x : Int} (h0 : 0 ≤ x) (h1 : x ≤ 100001) : pieceO kP l x = some (pc l x) := by
 have hk := kP_lt
 have h2 := h.num_in h0 h1
 have h3 := h.d1
 have h4 := h.d2
 have h5 := h.s1
 have h6 := h.s2
 have ea : wrap64 (l.n + wrap64 (l.s * wrap64 (x - l.fr))) = num l x := atL_eq h h0 h1
 unfold pieceO piecewise_line_piece.f piecewise_line_at.f
 rw [ea]
 clear ea
 simp only [Option.bind_some]
 rw [lowest_eq (by omega) (by omega) (by omega) (by omega) (by omega), lowest_eq (by omega) (by omega) (by omega) (by omega) (by omega)]
 rfl
noncomputable def stepB (b : BD) (e : LN × Int) : BD := if b.out = [] ∨ ¬ same b.last e.1 then ⟨e.1, b.out ++ [pc e.1 e.2], b.bad || !decide (POk (pc e.1 e.2))⟩ else ⟨e.1, b.out, b.bad⟩
theorem putO_eq {b : BD} {l : LN} {x : Int} (hl : WB l) (h0 : 0 ≤ x) (h1 : x ≤ 100001) (hb : b.out ≠ [] → WB b.last) : putO kP b l x = some (stepB b (l, x)) := by
 unfold putO stepB
 rw [pieceO_eq hl h0 h1]
 simp only [Option.bind_some, numB_eq]
 by_cases hz : b.out = []
 ·rw [if_pos (by rw [hz]; rfl), if_pos (.inl hz)]
 ·rw [if_neg (fun h => hz (List.eq_nil_of_length_eq_zero h)), pieceO_eq (hb hz) h0 h1]
  simp only [Option.bind_some]
  have hd1 := hl.d1
  have hd2 := (hb hz).d1
  by_cases hs : same b.last l
  ·rw [if_pos ((eqP_iff _ _).2 ((pc_iff (by omega) (by omega) x).2 (same_symm hs))), if_neg (fun h => h.elim hz (fun h => h hs))]
  ·rw [if_neg (fun h => hs (same_symm ((pc_iff (by omega) (by omega) x).1 ((eqP_iff _ _).1 h)))), if_pos (.inr hs)]
noncomputable def outM : Option LN → List (LN × Int) → List PC
 | _, [] => []
 | none, e :: t => pc e.1 e.2 :: outM (some e.1) t
 | some m, e :: t => (if same m e.1 then [] else [pc e.1 e.2]) ++ outM (some e.1) t
noncomputable def resS (out : List PC) : List PC × Int := if ∃ p, p ∈ out ∧ ¬ POk p then ([], 3) else if 64 < out.length then ([], 2) else (out, 0)
theorem resS_bad {a : List PC} (b : List PC) (h : ∃ p, p ∈ a ∧ ¬ POk p) : resS (a ++ b) = ([], 3) := by
 obtain ⟨p, hp, hn⟩ := h
 unfold resS
 rw [if_pos ⟨p, List.mem_append_left _ hp, hn⟩]
def lastB (b : BD) : Option LN := if b.out = [] then none else some b.last
theorem foldB_eq : ∀ (es : List (LN × Int)) (b : BD), (es.foldl stepB b).out = b.out ++ outM (lastB b) es ∧ ((es.foldl stepB b).bad = true ↔ b.bad = true ∨ ∃ p, p ∈ outM (lastB b) es ∧ ¬ POk p)
 | [], b => by simp [outM]
 | e :: t, b => by
  have ih := foldB_eq t (stepB b e)
  rw [List.foldl_cons]
  by_cases hz : b.out = []
  ·have e1 : stepB b e = ⟨e.1, b.out ++ [pc e.1 e.2], b.bad || !decide (POk (pc e.1 e.2))⟩ := if_pos (.inl hz)
   have e2 : lastB (stepB b e) = some e.1 := by rw [e1]; unfold lastB; simp
   rw [e2] at ih
   have e3 : lastB b = none := if_pos hz
   rw [ih.1, ih.2, e1, e3]
   simp [outM, or_assoc]
  ·have e3 : lastB b = some b.last := if_neg hz
   by_cases hs : same b.last e.1
   ·have e1 : stepB b e = ⟨e.1, b.out, b.bad⟩ := if_neg (fun h => h.elim hz (fun h => h hs))
    have e2 : lastB (stepB b e) = some e.1 := by rw [e1]; exact if_neg hz
    rw [e2] at ih
    rw [ih.1, ih.2, e1, e3]
    simp [outM, hs]
   ·have e1 : stepB b e = ⟨e.1, b.out ++ [pc e.1 e.2], b.bad || !decide (POk (pc e.1 e.2))⟩ := if_pos (.inr hs)
    have e2 : lastB (stepB b e) = some e.1 := by rw [e1]; unfold lastB; simp
    rw [e2] at ih
    rw [ih.1, ih.2, e1, e3]
    simp [outM, hs, or_assoc]
theorem resO_eq (es : List (LN × Int)) : resO (es.foldl stepB b00) = resS (outM none es) := by
 obtain ⟨h1, h2⟩ := foldB_eq es b00
 have e3 : lastB b00 = none := rfl
 rw [e3] at h1 h2
 have h3 : b00.out = [] := rfl
 have h4 : b00.bad = false := rfl
 rw [h3, List.nil_append] at h1
 rw [h4] at h2
 unfold resO resS
 rw [h1]
 by_cases hb : ∃ p, p ∈ outM none es ∧ ¬ POk p
 ·rw [if_pos (h2.2 (.inr hb)), if_pos hb]
 ·rw [if_neg (fun h => by rcases h2.1 h with h | h; cases h; exact hb h), if_neg hb]
end Go.Proofs.Ytmhimmodigeeiaa.P
end
section
namespace Go.Proofs.Ytmhimmodigeeiaa.P
open Go.RowKit Go.Proofs.YtmhimmodigeeiaaW.PrintWords Go.Proofs.YtmhimmodigeeiaaW.PrintLast Go.Proofs.YtmhimmodigeeiaaW.PrintMore
set_option linter.unusedVariables false
set_option linter.unusedSimpArgs false
open Classical
structure PB (p : PC) : Prop where
 v1 : -1200000000000 ≤ p.f1.f0
 v2 : p.f1.f0 ≤ 1200000000000
 w1 : 1 ≤ p.f1.f1
 w2 : p.f1.f1 ≤ 10000
 s1 : -10000000 ≤ p.f2.f0
 s2 : p.f2.f0 ≤ 10000000
 t1 : 1 ≤ p.f2.f1
 t2 : p.f2.f1 ≤ 10000
def pl (p : PC) : LN := ⟨p.f1.f0 * p.f2.f1, p.f2.f0 * p.f1.f1, p.f1.f1 * p.f2.f1, p.f0⟩
theorem lineL_pl {p : PC} (h : POk p) : lineL p = pl p := lineL_eq h
theorem line_ev {p : PC} (h : PB p) {x : Int} (h0 : -100001 ≤ x - p.f0) (h1 : x - p.f0 ≤ 100001) : Ev (fun k => cohousingref05_Line.f k p.f0 p.f1.f0 p.f1.f1 p.f2.f0 p.f2.f1 x) (red (num (pl p) x) (pl p).d) := by
 obtain ⟨a1, a2, a3, a4, a5, a6, a7, a8⟩ := h
 have e1 := mul_in a1 a2 (show -10000 ≤ p.f2.f1 by omega) a8
 have e2 := mul_in a5 a6 h0 h1
 have e3 := mul_in e2.1 e2.2 (show -10000 ≤ p.f1.f1 by omega) a4
 have e4 := mul_pos_in a3 a4 a7 a8
 have en : num (pl p) x = p.f1.f0 * p.f2.f1 + p.f2.f0 * (x - p.f0) * p.f1.f1 := by
  unfold num pl
  dsimp only
  rw [Int.mul_assoc p.f2.f0, Int.mul_comm p.f1.f1, ← Int.mul_assoc]
 unfold cohousingref05_Line.f
 rw [wrap_id (n := x - p.f0) (by omega) (by omega), wrap_id (n := p.f1.f0 * p.f2.f1) (by omega) (by omega), wrap_id (n := p.f2.f0 * (x - p.f0)) (by omega) (by omega), wrap_id (n := p.f2.f0 * (x - p.f0) * p.f1.f1) (by omega) (by omega), wrap_id (n := p.f1.f1 * p.f2.f1) (by omega) (by omega), wrap_id (by omega) (by omega), ← en]
 refine Ev.bnd (reduce_ev (show 0 < (pl p).d by show 0 < p.f1.f1 * p.f2.f1; omega) (show p.f1.f1 * p.f2.f1 ≤ _ by omega) (by rw [en]; omega) (by rw [en]; omega)) ?_
 exact Ev.pure _
theorem line_tot {p : PC} (h1 : 1 ≤ p.f1.f1) (h2 : p.f1.f1 ≤ 100000000) (h3 : 1 ≤ p.f2.f1) (h4 : p.f2.f1 ≤ 100000000) (x : Int) : ∃ r, Ev (fun k => cohousingref05_Line.f k p.f0 p.f1.f0 p.f1.f1 p.f2.f0 p.f2.f1 x) r := by
 have e4 := mul_pos_in h1 h2 h3 h4
 unfold cohousingref05_Line.f
 rw [wrap_id (n := p.f1.f1 * p.f2.f1) (by omega) (by omega)]
 obtain ⟨r, hr⟩ := reduce_tot (n := wrap64 (wrap64 (p.f1.f0 * p.f2.f1) + wrap64 (wrap64 (p.f2.f0 * wrap64 (x - p.f0)) * p.f1.f1))) (d := p.f1.f1 * p.f2.f1) (by omega)
 exact ⟨_, Ev.bnd hr (Ev.pure _)⟩
theorem same_pl {l : LN} (hd : 0 < l.d) (x : Int) : same (pl (pc l x)) l := by
 have c1 := red_cross (n := num l x) (d := l.d)
 have c2 := red_cross (n := l.s) (d := l.d)
 refine same_of (x := x) ?_ ?_
 ·have e : num (pl (pc l x)) x = (red (num l x) l.d).1 * (red l.s l.d).2 := by
   unfold num
   show _ + _ * (x - x) = _
   rw [Int.sub_self, Int.mul_zero, Int.add_zero]
   rfl
  rw [e]
  show _ * l.d = num l x * ((red (num l x) l.d).2 * (red l.s l.d).2)
  rw [← Int.mul_assoc, ← c1, Int.mul_assoc, Int.mul_comm (red l.s l.d).2, ← Int.mul_assoc]
 ·show (red l.s l.d).1 * (red (num l x) l.d).2 * l.d = l.s * ((red (num l x) l.d).2 * (red l.s l.d).2)
  rw [Int.mul_comm (red (num l x) l.d).2 (red l.s l.d).2, ← Int.mul_assoc, ← c2]
  rw [Int.mul_assoc, Int.mul_comm (red (num l x) l.d).2, ← Int.mul_assoc]
theorem pl_pos {l : LN} (hd : 0 < l.d) (x : Int) : 0 < (pl (pc l x)).d := Int.mul_pos (red_den hd) (red_den hd)
theorem cont_ev {m l : LN} {x0 x : Int} (hm : 0 < m.d) (hl : 0 < l.d) (hP : PB (pc m x0)) (h0 : -100001 ≤ x - x0) (h1 : x - x0 ≤ 100001) :
  Ev (fun k => cohousingref05_continues.f k (pc m x0).f0 (pc m x0).f1.f0 (pc m x0).f1.f1 (pc m x0).f2.f0 (pc m x0).f2.f1 (pc l x).f0 (pc l x).f1.f0 (pc l x).f1.f1 (pc l x).f2.f0 (pc l x).f2.f1) (decide (same m l)) := by
 have hline := line_ev hP (x := x) h0 h1
 have hv : red (num (pl (pc m x0)) x) (pl (pc m x0)).d = red (num m x) m.d := (red_iff (pl_pos hm x0) hm).2 (same_pl hm x0 x)
 rw [hv] at hline
 unfold cohousingref05_continues.f
 by_cases hs : red m.s m.d = red l.s l.d
 ·have e1 : ((pc m x0).f2.f0 == (pc l x).f2.f0 && (pc m x0).f2.f1 == (pc l x).f2.f1) = true := by
   show ((red m.s m.d).1 == (red l.s l.d).1 && (red m.s m.d).2 == (red l.s l.d).2) = true
   rw [hs]
   simp
  simp only [e1, if_true]
  refine Ev.bnd hline ?_
  have e2 : ((red (num m x) m.d).1 == (pc l x).f1.f0 && (red (num m x) m.d).2 == (pc l x).f1.f1) = decide (same m l) := by
   rw [Bool.eq_iff_iff]
   simp only [Bool.and_eq_true, beq_iff_eq, decide_eq_true_eq]
   constructor
   ·rintro ⟨g1, g2⟩
    exact same_of ((red_iff hm hl).1 (Prod.ext g1 g2)) ((red_iff hm hl).1 hs)
   ·intro h
    have := (red_iff hm hl).2 (h x)
    show _ = (red (num l x) l.d).1 ∧ _ = (red (num l x) l.d).2
    rw [this]
    exact ⟨rfl, rfl⟩
  rw [e2]
  exact Ev.pure _
 ·have e1 : ((pc m x0).f2.f0 == (pc l x).f2.f0 && (pc m x0).f2.f1 == (pc l x).f2.f1) = false := by
   rw [Bool.eq_false_iff]
   simp only [ne_eq, Bool.and_eq_true, beq_iff_eq]
   rintro ⟨g1, g2⟩
   exact hs (Prod.ext g1 g2)
  simp only [e1, Bool.false_eq_true, if_false]
  rw [decide_eq_false (fun h => hs ((red_iff hm hl).2 (same_slope h)))]
  exact Ev.pure _
theorem cont_tot {p q : PC} (h1 : 1 ≤ p.f1.f1) (h2 : p.f1.f1 ≤ 100000000) (h3 : 1 ≤ p.f2.f1) (h4 : p.f2.f1 ≤ 100000000) : ∃ r, Ev (fun k => cohousingref05_continues.f k p.f0 p.f1.f0 p.f1.f1 p.f2.f0 p.f2.f1 q.f0 q.f1.f0 q.f1.f1 q.f2.f0 q.f2.f1) r := by
 unfold cohousingref05_continues.f
 obtain ⟨r, hr⟩ := line_tot h1 h2 h3 h4 q.f0
 cases hc : (p.f2.f0 == q.f2.f0 && p.f2.f1 == q.f2.f1) with
 | true => exact ⟨_, by simp only [if_true]; exact Ev.bnd hr (Ev.pure _)⟩
 | false => exact ⟨_, by simp only [Bool.false_eq_true, if_false]; exact Ev.pure _⟩
theorem pc_bounds {l : LN} (h : WB l) {x : Int} (h0 : 0 ≤ x) (h1 : x ≤ 100001) : (-50000000000000000 ≤ (pc l x).f1.f0 ∧ (pc l x).f1.f0 ≤ 50000000000000000) ∧ (1 ≤ (pc l x).f1.f1 ∧ (pc l x).f1.f1 ≤ 100000000) ∧ (-210000000000 ≤ (pc l x).f2.f0 ∧ (pc l x).f2.f0 ≤ 210000000000) ∧ 1 ≤ (pc l x).f2.f1 ∧ (pc l x).f2.f1 ≤ 100000000 := by
 have hd : 0 < l.d := by have := h.d1; omega
 have hd2 := h.d2
 have n := h.num_in h0 h1
 have a1 := red_bound hd n.1 n.2
 have a2 := red_bound hd h.s1 h.s2
 have a3 := red_den (n := num l x) hd
 have a4 := red_den (n := l.s) hd
 have a5 := (red_small (n := num l x) hd).2
 have a6 := (red_small (n := l.s) hd).2
 show (_ ≤ (red (num l x) l.d).1 ∧ (red (num l x) l.d).1 ≤ _) ∧ (1 ≤ (red (num l x) l.d).2 ∧ (red (num l x) l.d).2 ≤ _) ∧ (_ ≤ (red l.s l.d).1 ∧ (red l.s l.d).1 ≤ _) ∧ 1 ≤ (red l.s l.d).2 ∧ (red l.s l.d).2 ≤ _
 omega
theorem pc_ib {l : LN} (h : WB l) {x : Int} (h0 : 0 ≤ x) (h1 : x ≤ 100001) : IBP (pc l x) := by
 obtain ⟨a, b, c, d⟩ := pc_bounds h h0 h1
 refine ⟨?_, ⟨?_, ?_⟩, ?_, ?_⟩ <;> constructor
 any_goals omega
 ·show _ ≤ x
  omega
 ·show x ≤ _
  omega
theorem pc_PB {l h : LN} (hl : WB l) (hh : LB h) (hs : same h l) {x : Int} (h0 : 0 ≤ x) (h1 : x ≤ 100001) : PB (pc l x) := by
 have hd : 0 < l.d := by have := hl.d1; omega
 have hd' : 0 < h.d := by have := hh.d1; omega
 have hd2 := hh.d2
 have e1 : red (num l x) l.d = red (num h x) h.d := ((red_iff hd' hd).2 (hs x)).symm
 have e2 : red l.s l.d = red h.s h.d := ((red_iff hd' hd).2 (same_slope hs)).symm
 have n := hh.num_in h0 h1
 have a1 := red_bound hd' n.1 n.2
 have a2 := red_bound hd' hh.s1 hh.s2
 have a3 := red_den (n := num h x) hd'
 have a4 := red_den (n := h.s) hd'
 have a5 := (red_small (n := num h x) hd').2
 have a6 := (red_small (n := h.s) hd').2
 have e : pc l x = ⟨x, ⟨(red (num h x) h.d).1, (red (num h x) h.d).2⟩, ⟨(red h.s h.d).1, (red h.s h.d).2⟩⟩ := by unfold pc; rw [e1, e2]
 rw [e]
 refine ⟨?_, ?_, ?_, ?_, ?_, ?_, ?_, ?_⟩ <;> dsimp only <;> omega
theorem FOk_one (p : PC) : FOk [(⟨0, (⟨p.f1.f0, p.f1.f1⟩ : RT), (⟨p.f2.f0, p.f2.f1⟩ : RT)⟩ : PC)] ↔ POk p := by
 constructor
 ·intro h
  exact (h.ok 0 (by simp)).2
 ·intro h
  refine ⟨by simp, by simp, rfl, fun i hi => ?_, by show (0 : Int) ≤ _; omega⟩
  have : i = 0 := by simpa using hi
  subst this
  exact ⟨fun h => absurd h (Nat.lt_irrefl 0), h⟩
theorem pA_mem {f : List PC} {i : Nat} (h : i < f.length) : pA f i ∈ f := by
 have e : pA f i = f[i] := by simp [pA, rd_T51, List.getD_eq_getElem?_getD, h]
 rw [e]
 exact List.getElem_mem h
theorem pA_get {f : List PC} {i : Nat} (h : i < f.length) : pA f i = f[i] := by simp [pA, rd_T51, List.getD_eq_getElem?_getD, h]
theorem res_l1 (out : List PC) (hI : ∀ p ∈ out, IBP p) (hB : out.length ≤ 1000000) : ∀ (d i : Nat), i + d = out.length → Ev (fun k => cohousingref05_result.l1 k out (i : Int)) (if ∃ j, i ≤ j ∧ j < out.length ∧ ¬ POk (pA out j) then ([], 3) else if 64 < out.length then ([], 2) else (out, 0)) := by
 intro d
 induction d with
 | zero =>
  intro i hi
  have h1 : ¬ ((i : Int) < (out.length : Int)) := by omega
  refine Ev.step ?_
  have hn : ¬ ∃ j, i ≤ j ∧ j < out.length ∧ ¬ POk (pA out j) := by
   rintro ⟨j, h2, h3, _⟩
   omega
  simp only [cohousingref05_result.l1, h1, if_false, hn]
  by_cases h2 : 64 < out.length
  ·have h3 : (out.length : Int) > 64 := by omega
   simp only [h2, h3, if_true]
   exact Ev.pure _
  ·have h3 : ¬ (out.length : Int) > 64 := by omega
   simp only [h2, h3, if_false]
   exact Ev.pure _
 | succ d ih =>
  intro i hi
  have h1 : (i : Int) < (out.length : Int) := by omega
  have h2 : 0 ≤ (i : Int) := by omega
  have ew : wrap64 ((i : Int) + 1) = ((i + 1 : Nat) : Int) := by unfold wrap64; omega
  have hib := hI _ (pA_mem (show i < out.length by omega))
  refine Ev.step ?_
  simp only [cohousingref05_result.l1, h1, h2, if_true, ew]
  refine Ev.bnd (rvalid_ev _ (fun p hp => ?_)) ?_
  ·rw [List.mem_singleton.1 hp]
   exact ⟨⟨by show _ ≤ (0 : Int); omega, by show (0 : Int) ≤ _; omega⟩, hib.2⟩
  have e := FOk_one (pA out i)
  by_cases hp : POk (pA out i)
  ·simp only [decide_eq_true (e.2 hp), if_true]
   have hih := ih (i + 1) (by omega)
   have hc : (∃ j, i ≤ j ∧ j < out.length ∧ ¬ POk (pA out j)) ↔ ∃ j, i + 1 ≤ j ∧ j < out.length ∧ ¬ POk (pA out j) := by
    constructor
    ·rintro ⟨j, h3, h4, h5⟩
     refine ⟨j, ?_, h4, h5⟩
     rcases Nat.eq_or_lt_of_le h3 with rfl | h
     ·exact absurd hp h5
     ·exact h
    ·rintro ⟨j, h3, h4, h5⟩
     exact ⟨j, by omega, h4, h5⟩
   simp only [hc]
   exact hih
  ·simp only [decide_eq_false (fun h => hp (e.1 h)), Bool.false_eq_true, if_false]
   rw [if_pos ⟨i, Nat.le_refl _, by omega, hp⟩]
   exact Ev.pure _
theorem res_end (out : List PC) (hI : ∀ p ∈ out, IBP p) (hB : out.length ≤ 1000000) : Ev (fun k => cohousingref05_result.l1 k out 0) (resS out) := by
 have h := res_l1 out hI hB out.length 0 (by omega)
 have e : (∃ j, 0 ≤ j ∧ j < out.length ∧ ¬ POk (pA out j)) ↔ ∃ p, p ∈ out ∧ ¬ POk p := by
  constructor
  ·rintro ⟨j, _, h3, h4⟩
   exact ⟨_, pA_mem h3, h4⟩
  ·rintro ⟨p, hp, hn⟩
   obtain ⟨j, hj, rfl⟩ := List.mem_iff_getElem.1 hp
   exact ⟨j, Nat.zero_le _, hj, by rw [pA_get hj]; exact hn⟩
 simp only [e] at h
 exact h
def EOk (e : LN × Int) : Prop := WB e.1 ∧ 0 ≤ e.2 ∧ e.2 ≤ 100000
def pcs (es : List (LN × Int)) : List PC := es.map (fun e => pc e.1 e.2)
theorem pcs_len (es : List (LN × Int)) : (pcs es).length = es.length := by unfold pcs; rw [List.length_map]
theorem pcs_at {es : List (LN × Int)} {i : Nat} (h : i < es.length) : pA (pcs es) i = pc es[i].1 es[i].2 := by
 rw [pA_get (by rw [pcs_len]; exact h)]
 simp [pcs]
theorem res_bad (es : List (LN × Int)) (hes : ∀ e ∈ es, EOk e) (hB : es.length ≤ 1000000) : ∀ (d i : Nat) (out : List PC), i + d = es.length → 0 < i → out.length ≤ i → (∀ p ∈ out, IBP p) → (∃ p, p ∈ out ∧ ¬ POk p) → Ev (fun k => cohousingref05_result.l0 k (pcs es) out (i : Int)) ([], 3) := by
 intro d
 induction d with
 | zero =>
  intro i out hi h0 ho hI hb
  have h1 : ¬ ((i : Int) < ((pcs es).length : Int)) := by rw [pcs_len]; omega
  refine Ev.step ?_
  simp only [cohousingref05_result.l0, h1, if_false]
  have := res_end out hI (by omega)
  have e : resS out = ([], 3) := by have := resS_bad [] hb; rwa [List.append_nil] at this
  rwa [e] at this
 | succ d ih =>
  intro i out hi h0 ho hI hb
  have hl := pcs_len es
  have h1 : (i : Int) < ((pcs es).length : Int) := by omega
  have h2 : 0 ≤ (i : Int) := by omega
  have h3 : (i : Int) > 0 := by omega
  have h4 : wrap64 ((i : Int) - 1) = ((i - 1 : Nat) : Int) := by unfold wrap64; omega
  have h5 : 0 ≤ ((i - 1 : Nat) : Int) := by omega
  have h6 : ((i - 1 : Nat) : Int) < ((pcs es).length : Int) := by omega
  have h7 : out.length < 3518437208883 := by omega
  have ew : wrap64 ((i : Int) + 1) = ((i + 1 : Nat) : Int) := by unfold wrap64; omega
  have e1 := pcs_at (es := es) (i := i - 1) (by omega)
  have k1 := hes _ (List.getElem_mem (show i - 1 < es.length by omega))
  have k2 := hes _ (List.getElem_mem (show i < es.length by omega))
  have b1 := pc_bounds k1.1 k1.2.1 (by have := k1.2.2; omega)
  rw [← e1] at b1
  obtain ⟨r, hr⟩ := cont_tot (p := pA (pcs es) (i - 1)) (q := pA (pcs es) i) b1.2.1.1 b1.2.1.2 b1.2.2.2.1 b1.2.2.2.2
  refine Ev.step ?_
  simp only [cohousingref05_result.l0, h1, h2, h3, h4, h5, h6, h7, if_true, ew]
  refine Ev.bnd hr ?_
  cases r with
  | true =>
   simp only [if_true]
   exact ih (i + 1) out (by omega) (by omega) (by omega) hI hb
  | false =>
   simp only [Bool.false_eq_true, if_false]
   refine ih (i + 1) _ (by omega) (by omega) (by rw [List.length_append, List.length_singleton]; omega) (fun p hp => ?_) ?_
   ·rcases List.mem_append.1 hp with h | h
    ·exact hI p h
    ·rw [List.mem_singleton.1 h]
     have := pc_ib k2.1 k2.2.1 (by have := k2.2.2; omega)
     rw [← pcs_at (es := es) (i := i) (by omega)] at this
     exact this
   ·obtain ⟨p, hp, hn⟩ := hb
    exact ⟨p, List.mem_append_left _ hp, hn⟩
theorem drop_at {es : List (LN × Int)} {i : Nat} (h : i < es.length) : es.drop i = es[i] :: es.drop (i + 1) := List.drop_eq_getElem_cons h
theorem res_l0 (es : List (LN × Int)) (hes : ∀ e ∈ es, EOk e) (hB : es.length ≤ 1000000) : ∀ (d i : Nat) (out : List PC) (hi : i + d = es.length) (h0 : 0 < i) (hlt : i - 1 < es.length), out.length ≤ i → (∀ p ∈ out, IBP p) → ((∃ p, p ∈ out ∧ ¬ POk p) ∨ ∃ h, LB h ∧ same h es[i - 1].1) → Ev (fun k => cohousingref05_result.l0 k (pcs es) out (i : Int)) (resS (out ++ outM (some es[i - 1].1) (es.drop i))) := by
 intro d
 induction d with
 | zero =>
  intro i out hi h0 hlt ho hI hb
  have h1 : ¬ ((i : Int) < ((pcs es).length : Int)) := by rw [pcs_len]; omega
  refine Ev.step ?_
  simp only [cohousingref05_result.l0, h1, if_false]
  rw [List.drop_of_length_le (by omega)]
  simp only [outM, List.append_nil]
  exact res_end out hI (by omega)
 | succ d ih =>
  intro i out hi h0 hlt ho hI hb
  rcases hb with hb | ⟨h, hh, hs⟩
  ·rw [resS_bad _ hb]
   exact res_bad es hes hB (d + 1) i out hi h0 ho hI hb
  have hl := pcs_len es
  have hil : i < es.length := by omega
  have h1 : (i : Int) < ((pcs es).length : Int) := by omega
  have h2 : 0 ≤ (i : Int) := by omega
  have h3 : (i : Int) > 0 := by omega
  have h4 : wrap64 ((i : Int) - 1) = ((i - 1 : Nat) : Int) := by unfold wrap64; omega
  have h5 : 0 ≤ ((i - 1 : Nat) : Int) := by omega
  have h6 : ((i - 1 : Nat) : Int) < ((pcs es).length : Int) := by omega
  have h7 : out.length < 3518437208883 := by omega
  have ew : wrap64 ((i : Int) + 1) = ((i + 1 : Nat) : Int) := by unfold wrap64; omega
  have e1 := pcs_at (es := es) (i := i - 1) hlt
  have e2 := pcs_at (es := es) (i := i) hil
  have k1 := hes _ (List.getElem_mem hlt)
  have k2 := hes _ (List.getElem_mem hil)
  have hd1 : 0 < es[i - 1].1.d := by have := k1.1.d1; omega
  have hd2 : 0 < es[i].1.d := by have := k2.1.d1; omega
  have hPB := pc_PB k1.1 hh hs k1.2.1 (by have := k1.2.2; omega)
  have hc := cont_ev (x := es[i].2) hd1 hd2 hPB (by have := k1.2; have := k2.2; omega) (by have := k1.2; have := k2.2; omega)
  rw [← e1, ← e2] at hc
  rw [drop_at hil]
  refine Ev.step ?_
  simp only [cohousingref05_result.l0, h1, h2, h3, h4, h5, h6, h7, if_true, ew]
  refine Ev.bnd hc ?_
  by_cases hsm : same es[i - 1].1 es[i].1
  ·simp only [decide_eq_true hsm, if_true]
   have := ih (i + 1) out (by omega) (by omega) (by omega) (by omega) hI (.inr ⟨h, hh, same_trans hd1 hs hsm⟩)
   simp only [Nat.add_sub_cancel] at this
   simp only [outM, hsm, if_true, List.nil_append]
   exact this
  ·simp only [decide_eq_false hsm, Bool.false_eq_true, if_false]
   have ep : (⟨(rd_T51 (pcs es) (i : Int)).f0, (⟨(rd_T51 (pcs es) (i : Int)).f1.f0, (rd_T51 (pcs es) (i : Int)).f1.f1⟩ : RT), (⟨(rd_T51 (pcs es) (i : Int)).f2.f0, (rd_T51 (pcs es) (i : Int)).f2.f1⟩ : RT)⟩ : PC) = pc es[i].1 es[i].2 := e2
   rw [ep]
   have hib := pc_ib k2.1 k2.2.1 (by have := k2.2.2; omega)
   have := ih (i + 1) (out ++ [pc es[i].1 es[i].2]) (by omega) (by omega) (by omega) (by rw [List.length_append, List.length_singleton]; omega) (fun p hp => by
    rcases List.mem_append.1 hp with h | h
    ·exact hI p h
    ·rw [List.mem_singleton.1 h]; exact hib) (by
    by_cases hp : POk (pc es[i].1 es[i].2)
    ·refine .inr ⟨_, lineL_LB hp (show 0 ≤ es[i].2 from k2.2.1) (show es[i].2 ≤ 100000 from k2.2.2), ?_⟩
     rw [lineL_pl hp]
     exact same_pl hd2 _
    ·exact .inl ⟨_, List.mem_append_right _ (List.mem_singleton_self _), hp⟩)
   simp only [Nat.add_sub_cancel] at this
   simp only [outM, hsm, if_false]
   rw [← List.append_assoc]
   exact this
theorem result_ev (es : List (LN × Int)) (hes : ∀ e ∈ es, EOk e) (hB : es.length ≤ 1000000) (h1 : 1 ≤ es.length) : Ev (fun k => cohousingref05_result.f k (pcs es)) (resS (outM none es)) := by
 unfold cohousingref05_result.f
 have hl := pcs_len es
 have h0 : (0 : Int) < ((pcs es).length : Int) := by omega
 have h2 : ¬ (0 : Int) > 0 := by omega
 have h7 : ([] : List PC).length < 3518437208883 := by simp
 have ew : wrap64 ((0 : Int) + 1) = ((1 : Nat) : Int) := by unfold wrap64; omega
 have e0 := pcs_at (es := es) (i := 0) (by omega)
 have k0 := hes _ (List.getElem_mem (show 0 < es.length by omega))
 have hd : 0 < es[0].1.d := by have := k0.1.d1; omega
 refine Ev.step ?_
 simp only [cohousingref05_result.l0, h0, h2, h7, if_true, if_false, Int.le_refl, ew]
 have ep : (⟨(rd_T51 (pcs es) 0).f0, (⟨(rd_T51 (pcs es) 0).f1.f0, (rd_T51 (pcs es) 0).f1.f1⟩ : RT), (⟨(rd_T51 (pcs es) 0).f2.f0, (rd_T51 (pcs es) 0).f2.f1⟩ : RT)⟩ : PC) = pc es[0].1 es[0].2 := e0
 rw [ep, List.nil_append]
 have hib := pc_ib k0.1 k0.2.1 (by have := k0.2.2; omega)
 have := res_l0 es hes hB (es.length - 1) 1 [pc es[0].1 es[0].2] (by omega) (by omega) (by omega) (by simp) (fun p hp => by rw [List.mem_singleton.1 hp]; exact hib) (by
  by_cases hp : POk (pc es[0].1 es[0].2)
  ·refine .inr ⟨_, lineL_LB hp (show 0 ≤ es[0].2 from k0.2.1) (show es[0].2 ≤ 100000 from k0.2.2), ?_⟩
   rw [lineL_pl hp]
   exact same_pl hd _
  ·exact .inl ⟨_, List.mem_singleton_self _, hp⟩)
 have e : outM none es = [pc es[0].1 es[0].2] ++ outM (some es[1 - 1].1) (es.drop 1) := by
  have h := drop_at (es := es) (i := 0) (by omega)
  rw [List.drop_zero] at h
  exact (congrArg (outM none) h).trans rfl
 rw [e]
 exact this
end Go.Proofs.Ytmhimmodigeeiaa.P
end
section
namespace Go.Proofs.Ytmhimmodigeeiaa.P
open Go.RowKit Go.Proofs.YtmhimmodigeeiaaW.PrintWords Go.Proofs.YtmhimmodigeeiaaW.PrintLast Go.Proofs.YtmhimmodigeeiaaW.PrintMore
set_option linter.unusedVariables false
set_option linter.unusedSimpArgs false
open Classical
def atI (f : List PC) (x : Int) (i : Nat) : Prop := i < f.length ∧ (pA f i).f0 ≤ x ∧ (i + 1 < f.length → x < (pA f (i + 1)).f0)
theorem ex_at {f : List PC} (hf : FOk f) {x : Int} (h0 : 0 ≤ x) : ∃ i, atI f x i := by
 have key : ∀ n, n + 1 ≤ f.length → (∃ i, atI f x i) ∨ (pA f n).f0 ≤ x := by
  intro n
  induction n with
  | zero =>
   intro hn
   exact .inr (by have := hf.zero; omega)
  | succ n ih =>
   intro hn
   rcases ih (by omega) with h | h
   ·exact .inl h
   ·by_cases hx : (pA f (n + 1)).f0 ≤ x
    ·exact .inr hx
    ·exact .inl ⟨n, by omega, h, fun _ => by omega⟩
 have := hf.one
 rcases key (f.length - 1) (by omega) with h | h
 ·exact h
 ·exact ⟨f.length - 1, by omega, h, fun h2 => by omega⟩
theorem at_le {f : List PC} (hf : FOk f) {x : Int} {i n : Nat} (h : atI f x i) (hn : n < f.length) : (pA f n).f0 ≤ x ↔ n ≤ i := by
 constructor
 ·intro hx
  rcases Nat.lt_or_ge i n with h1 | h1
  ·have h2 := h.2.2 (by omega)
   rcases Nat.eq_or_lt_of_le (show i + 1 ≤ n from h1) with e | h3
   ·rw [e] at h2; omega
   ·have := hf.lt h3 hn
    omega
  ·exact h1
 ·intro h1
  rcases Nat.eq_or_lt_of_le h1 with e | h2
  ·rw [e]; exact h.2.1
  ·have := hf.lt h2 h.1
   have := h.2.1
   omega
theorem piece_l0 (f : List PC) (hf : FOk f) {x : Int} {i : Nat} (h : atI f x i) : ∀ (d n : Nat) (c : PC), n + d = f.length → (i < n → c = pA f i) → Ev (fun k => cohousingref05_Piece.l0 k f x (n : Int) c.f0 c.f1.f0 c.f1.f1 c.f2.f0 c.f2.f1) ((pA f i).f0, (pA f i).f1.f0, (pA f i).f1.f1, (pA f i).f2.f0, (pA f i).f2.f1) := by
 have hfew := hf.few
 intro d
 induction d with
 | zero =>
  intro n c hn hc
  have h1 : ¬ ((n : Int) < (f.length : Int)) := by omega
  refine Ev.step ?_
  simp only [cohousingref05_Piece.l0, h1, if_false]
  rw [hc (by have := h.1; omega)]
  exact Ev.pure _
 | succ d ih =>
  intro n c hn hc
  have h1 : (n : Int) < (f.length : Int) := by omega
  have h2 : 0 ≤ (n : Int) := by omega
  have ew : wrap64 ((n : Int) + 1) = ((n + 1 : Nat) : Int) := by unfold wrap64; omega
  have e := at_le hf h (show n < f.length by omega)
  refine Ev.step ?_
  simp only [cohousingref05_Piece.l0, h1, h2, if_true, ew]
  by_cases hx : (pA f n).f0 ≤ x
  ·simp only [hx, if_true]
   have hle := e.1 hx
   exact ih (n + 1) (pA f n) (by omega) (fun hi => by rw [show n = i by omega])
  ·simp only [hx, if_false]
   exact ih (n + 1) c (by omega) (fun hi => hc (by
    rcases Nat.lt_or_ge i n with h3 | h3
    ·exact h3
    ·exact absurd (e.2 h3) hx))
theorem piece_ev {f : List PC} (hf : FOk f) {x : Int} {i : Nat} (h : atI f x i) : Ev (fun k => cohousingref05_Piece.f k f x) ((pA f i).f0, (pA f i).f1.f0, (pA f i).f1.f1, (pA f i).f2.f0, (pA f i).f2.f1) := by
 have h0 : (0 : Int) < (f.length : Int) := by have := hf.one; omega
 unfold cohousingref05_Piece.f
 simp only [h0, if_true]
 exact piece_l0 f hf h f.length 0 (pA f 0) (by omega) (fun h => absurd h (Nat.not_lt_zero _))
theorem find_eq {f : List PC} (hf : FOk f) {x : Int} {i : Nat} (h : atI f x i) : piecewise_find.f f x = some ((lineL (pA f i)).n, (lineL (pA f i)).s, (lineL (pA f i)).d, (lineL (pA f i)).fr) := by
 have hfew := hf.few
 have hil := h.1
 have ep : ∀ a : Int, 0 ≤ a → (laterB f x a = true ↔ x < (pA f a.toNat).f0) := fun a ha => by
  unfold laterB
  rw [decide_eq_true_eq, show pA f a.toNat = rd_T51 f a by unfold pA; rw [Int.toNat_of_nonneg ha]]
 have hs := bsearch_spec (laterB f x) 0 (f.length : Int) (fun a b h0 hab hb hp => by
  rw [ep a h0] at hp
  rw [ep b (by omega)]
  rcases Int.lt_or_le a b with h1 | h1
  ·have := hf.lt (show a.toNat < b.toNat by omega) (by omega)
   omega
  ·rw [show b = a by omega]; exact hp) f.length 0 (f.length : Int) (Int.le_refl _) (by omega) (Int.le_refl _) (by omega) (fun a h1 h2 => by omega) (fun h => by omega)
 have er : laterN f x = ((i + 1 : Nat) : Int) := by
  show bsearch (laterB f x) f.length 0 (f.length : Int) = _
  generalize bsearch (laterB f x) f.length 0 (f.length : Int) = r at hs
  obtain ⟨h1, h2, h3, h4⟩ := hs
  have a1 : ¬ r ≤ (i : Int) := fun hr => by
   have := (ep r h1).1 (h4 (by omega))
   have := (at_le hf h (show r.toNat < f.length by omega)).2 (by omega)
   omega
  have a2 : ¬ (i : Int) + 1 < r := fun hr => by
   have hlt : i + 1 < f.length := by omega
   have b1 := h3 ((i + 1 : Nat) : Int) (by omega) (by omega)
   have b2 := (ep ((i + 1 : Nat) : Int) (by omega)).2 (by rw [Int.toNat_natCast]; exact h.2.2 hlt)
   rw [b1] at b2
   cases b2
  omega
 unfold piecewise_find.f
 rw [er, if_pos ⟨by omega, by omega, by omega⟩, show ((i + 1 : Nat) : Int) - 1 = (i : Int) by omega]
structure Inv (f g : List PC) (s : Nat × Nat × Int) : Prop where
 a : atI f s.2.2 s.1
 b : atI g s.2.2 s.2.1
 lo : 0 ≤ s.2.2
 hi : s.2.2 ≤ 100001
theorem nxt_le {f : List PC} {i : Nat} {a : Int} : nxt f i a ≤ a ∧ (i + 1 < f.length → nxt f i a ≤ (pA f (i + 1)).f0) ∧ (nxt f i a = a ∨ i + 1 < f.length ∧ nxt f i a = (pA f (i + 1)).f0) := by
 unfold nxt mn
 by_cases h : i + 1 < f.length
 ·rw [if_pos h]
  show (if (pA f (i + 1)).f0 < a then (pA f (i + 1)).f0 else a) ≤ a ∧ (_ → (if (pA f (i + 1)).f0 < a then (pA f (i + 1)).f0 else a) ≤ (pA f (i + 1)).f0) ∧ ((if (pA f (i + 1)).f0 < a then (pA f (i + 1)).f0 else a) = a ∨ _ ∧ (if (pA f (i + 1)).f0 < a then (pA f (i + 1)).f0 else a) = (pA f (i + 1)).f0)
  split
  ·exact ⟨by omega, fun _ => by omega, .inr ⟨h, rfl⟩⟩
  ·exact ⟨by omega, fun _ => by omega, .inl rfl⟩
 ·rw [if_neg h]
  exact ⟨by omega, fun h' => absurd h' h, .inl rfl⟩
theorem adv_at {f : List PC} (hf : FOk f) {x x' : Int} {i : Nat} (h : atI f x i) (hx : x ≤ x') (hn : i + 1 < f.length → x' ≤ (pA f (i + 1)).f0) : atI f x' (adv f i x') := by
 unfold adv
 by_cases hc : i + 1 < f.length ∧ (rd_T51 f ((i + 1 : Nat) : Int)).f0 = x'
 ·rw [if_pos hc]
  have hc2 : (pA f (i + 1)).f0 = x' := hc.2
  exact ⟨hc.1, by omega, fun h2 => by have := hf.lt (show i + 1 < i + 1 + 1 by omega) h2; omega⟩
 ·rw [if_neg hc]
  refine ⟨h.1, by have := h.2.1; omega, fun h2 => ?_⟩
  have h3 := hn h2
  have h4 : ¬ (pA f (i + 1)).f0 = x' := fun e => hc ⟨h2, e⟩
  omega
theorem nxt_in {f g : List PC} (hf : FOk f) (hg : FOk g) {s : Nat × Nat × Int} (h : Inv f g s) : s.2.2 ≤ nxt g s.2.1 (nxt f s.1 100001) ∧ (s.2.2 ≤ 100000 → s.2.2 < nxt g s.2.1 (nxt f s.1 100001)) ∧ nxt g s.2.1 (nxt f s.1 100001) ≤ 100001 ∧ (s.1 + 1 < f.length → nxt g s.2.1 (nxt f s.1 100001) ≤ (pA f (s.1 + 1)).f0) ∧ (s.2.1 + 1 < g.length → nxt g s.2.1 (nxt f s.1 100001) ≤ (pA g (s.2.1 + 1)).f0) ∧ (nxt g s.2.1 (nxt f s.1 100001) = 100001 ∨ (s.1 + 1 < f.length ∧ nxt g s.2.1 (nxt f s.1 100001) = (pA f (s.1 + 1)).f0) ∨ (s.2.1 + 1 < g.length ∧ nxt g s.2.1 (nxt f s.1 100001) = (pA g (s.2.1 + 1)).f0)) := by
 obtain ⟨a1, a2, a3⟩ := nxt_le (f := f) (i := s.1) (a := 100001)
 obtain ⟨b1, b2, b3⟩ := nxt_le (f := g) (i := s.2.1) (a := nxt f s.1 100001)
 have ha := h.a.2.2
 have hb := h.b.2.2
 have hhi := h.hi
 generalize nxt g s.2.1 (nxt f s.1 100001) = y at *
 generalize nxt f s.1 100001 = z at *
 refine ⟨?_, fun hx => ?_, by omega, fun h1 => by have := a2 h1; omega, b2, ?_⟩
 ·rcases b3 with e | ⟨l, e⟩
  ·rcases a3 with e' | ⟨l', e'⟩
   ·omega
   ·have := ha l'; omega
  ·have := hb l; omega
 ·rcases b3 with e | ⟨l, e⟩
  ·rcases a3 with e' | ⟨l', e'⟩
   ·omega
   ·have := ha l'; omega
  ·have := hb l; omega
 ·rcases b3 with e | ⟨l, e⟩
  ·rcases a3 with e' | ⟨l', e'⟩
   ·exact .inl (by omega)
   ·exact .inr (.inl ⟨l', by omega⟩)
  ·exact .inr (.inr ⟨l, e⟩)
theorem inv_at {f g : List PC} (hf : FOk f) (hg : FOk g) : ∀ j, Inv f g (stp f g j)
 | 0 => by
  have h1 := hf.one
  have h2 := hg.one
  refine ⟨⟨by show 0 < _; omega, by show (pA f 0).f0 ≤ 0; rw [hf.zero]; omega, fun h => ?_⟩, ⟨by show 0 < _; omega, by show (pA g 0).f0 ≤ 0; rw [hg.zero]; omega, fun h => ?_⟩, by show (0 : Int) ≤ 0; omega, by show (0 : Int) ≤ 100001; omega⟩
  ·have := hf.lt (show 0 < 1 by omega) h
   rw [hf.zero] at this
   exact this
  ·have := hg.lt (show 0 < 1 by omega) h
   rw [hg.zero] at this
   exact this
 | j + 1 => by
  have h := inv_at hf hg j
  obtain ⟨n1, n2, n3, n4, n5, n6⟩ := nxt_in hf hg h
  have h0 := h.lo
  exact ⟨adv_at hf h.a n1 n4, adv_at hg h.b n1 n5, by show 0 ≤ nxt _ _ _; omega, n3⟩
theorem stp_x (f g : List PC) (j : Nat) : (stp f g (j + 1)).2.2 = nxt g (stp f g j).2.1 (nxt f (stp f g j).1 100001) := rfl
theorem stp_i (f g : List PC) (j : Nat) : (stp f g (j + 1)).1 = adv f (stp f g j).1 (stp f g (j + 1)).2.2 := rfl
theorem stp_k (f g : List PC) (j : Nat) : (stp f g (j + 1)).2.1 = adv g (stp f g j).2.1 (stp f g (j + 1)).2.2 := rfl
theorem stp_up {f g : List PC} (hf : FOk f) (hg : FOk g) {j : Nat} (h : (stp f g j).2.2 ≤ 100000) : (stp f g j).2.2 < (stp f g (j + 1)).2.2 := (nxt_in hf hg (inv_at hf hg j)).2.1 h
theorem stp_end {f g : List PC} (hf : FOk f) (hg : FOk g) : ∀ (d j : Nat), (f.length - 1 - (stp f g j).1) + (g.length - 1 - (stp f g j).2.1) ≤ d → ∃ n, n ≤ j + d + 1 ∧ 100000 < (stp f g n).2.2 := by
 intro d
 induction d with
 | zero =>
  intro j h
  refine ⟨j + 1, by omega, ?_⟩
  have hj := inv_at hf hg j
  obtain ⟨n1, n2, n3, n4, n5, n6⟩ := nxt_in hf hg hj
  rw [stp_x]
  have a1 := hj.a.1
  have b1 := hj.b.1
  rcases n6 with e | ⟨l, e⟩ | ⟨l, e⟩ <;> omega
 | succ d ih =>
  intro j h
  by_cases hx : 100000 < (stp f g (j + 1)).2.2
  ·exact ⟨j + 1, by omega, hx⟩
  have hj := inv_at hf hg j
  obtain ⟨n1, n2, n3, n4, n5, n6⟩ := nxt_in hf hg hj
  have a1 := hj.a.1
  have b1 := hj.b.1
  have hj' := inv_at hf hg (j + 1)
  have a2 := hj'.a.1
  have b2 := hj'.b.1
  have ei := stp_i f g j
  have ek := stp_k f g j
  have ei2 : (stp f g j).1 ≤ (stp f g (j + 1)).1 := by rw [ei]; unfold adv; split <;> omega
  have ek2 : (stp f g j).2.1 ≤ (stp f g (j + 1)).2.1 := by rw [ek]; unfold adv; split <;> omega
  have hm : (f.length - 1 - (stp f g (j + 1)).1) + (g.length - 1 - (stp f g (j + 1)).2.1) ≤ d := by
   rcases n6 with e | ⟨l, e⟩ | ⟨l, e⟩
   ·rw [stp_x] at hx; omega
   ·have : (stp f g (j + 1)).1 = (stp f g j).1 + 1 := by rw [ei]; unfold adv; exact if_pos ⟨l, by rw [stp_x]; exact e.symm⟩
    omega
   ·have : (stp f g (j + 1)).2.1 = (stp f g j).2.1 + 1 := by rw [ek]; unfold adv; exact if_pos ⟨l, by rw [stp_x]; exact e.symm⟩
    omega
  obtain ⟨n, hn, h2⟩ := ih (j + 1) hm
  exact ⟨n, by omega, h2⟩
theorem least_of {p : Nat → Prop} : ∀ (N n : Nat), n ≤ N → p n → ∃ m, m ≤ N ∧ p m ∧ ∀ j, j < m → ¬ p j := by
 intro N
 induction N with
 | zero =>
  intro n hn hp
  have : n = 0 := by omega
  subst this
  exact ⟨0, Nat.le_refl _, hp, fun j hj => absurd hj (Nat.not_lt_zero _)⟩
 | succ N ih =>
  intro n hn hp
  by_cases h : ∃ j, j ≤ N ∧ p j
  ·obtain ⟨j, hj, hpj⟩ := h
   obtain ⟨m, h1, h2, h3⟩ := ih j hj hpj
   exact ⟨m, by omega, h2, h3⟩
  ·exact ⟨n, hn, hp, fun j hj hpj => h ⟨j, by omega, hpj⟩⟩
theorem stM_ex {f g : List PC} (hf : FOk f) (hg : FOk g) : ∃ M, stM f g = some M ∧ StOk f g M ∧ M ≤ 1000 ∧ 1 ≤ M := by
 have a1 := hf.few
 have a2 := hg.few
 obtain ⟨n, hn, hx⟩ := stp_end hf hg 128 0 (by omega)
 obtain ⟨M, hM, h1, h2⟩ := least_of (p := fun n => 100000 < (stp f g n).2.2) 1000 n (by omega) hx
 have hb : stOkB f g M = true := by
  unfold stOkB
  simp only [Bool.and_eq_true, decide_eq_true_eq]
  refine ⟨⟨by omega, by omega⟩, fun j hj => ?_, fun j hj => ?_, h1⟩
  ·have := inv_at hf hg j
   exact ⟨this.a.1, this.b.1, this.lo⟩
  ·have h3 : (stp f g j).2.2 ≤ 100000 := by have := h2 j hj; omega
   exact ⟨h3, stp_up hf hg h3⟩
 cases hc : stM f g with
 | none =>
  unfold stM at hc
  have := List.find?_eq_none.1 hc M (List.mem_range.2 (by omega))
  exact absurd hb this
 | some M' =>
  obtain ⟨h3, h4⟩ := stM_at hc
  refine ⟨M', rfl, h3, h4, ?_⟩
  rcases Nat.eq_zero_or_pos M' with e | e
  ·have := h3.last
   rw [e] at this
   exact absurd (show 100000 < (0 : Int) from this) (by omega)
  ·exact e
theorem st_l2 {f g : List PC} (hg : FOk g) (out : List Int) (ho : out.length ≤ 100000) (a : Int) (b : Nat) (x : Int) (hb : b ≤ g.length) (r : List Int) (h : Ev (fun k => cohousingref05_Starts.l0 k f g (out ++ [x]) a (((if b < g.length ∧ (pA g b).f0 = x then b + 1 else b) : Nat) : Int)) r) : Ev (fun k => cohousingref05_Starts.l2 k f g out a (b : Int) x) r := by
 have hfew := hg.few
 have ho2 : out.length < 17592186044416 := by omega
 have stop : ∀ c : Nat, c ≤ g.length → (c < g.length → (pA g c).f0 ≠ x) → Ev (fun k => cohousingref05_Starts.l0 k f g (out ++ [x]) a (c : Int)) r → Ev (fun k => cohousingref05_Starts.l2 k f g out a (c : Int) x) r := by
  intro c hc hne hr
  refine Ev.step ?_
  by_cases h1 : c < g.length
  ·have h2 : (c : Int) < (g.length : Int) := by omega
   have h3 : 0 ≤ (c : Int) := by omega
   have h4 : ¬ (rd_T51 g (c : Int)).f0 = x := hne h1
   simp only [cohousingref05_Starts.l2, h2, h3, h4, ho2, if_true, if_false]
   exact hr
  ·have h2 : ¬ (c : Int) < (g.length : Int) := by omega
   simp only [cohousingref05_Starts.l2, h2, ho2, if_true, if_false]
   exact hr
 by_cases hc : b < g.length ∧ (pA g b).f0 = x
 ·rw [if_pos hc] at h
  have h2 : (b : Int) < (g.length : Int) := by omega
  have h3 : 0 ≤ (b : Int) := by omega
  have h4 : (rd_T51 g (b : Int)).f0 = x := hc.2
  have ew : wrap64 ((b : Int) + 1) = ((b + 1 : Nat) : Int) := by unfold wrap64; omega
  refine Ev.step ?_
  simp only [cohousingref05_Starts.l2, h2, h3, h4, if_true, ew]
  exact stop (b + 1) (by omega) (fun h5 => by have := hg.lt (show b < b + 1 by omega) h5; omega) h
 ·rw [if_neg hc] at h
  exact stop b hb (fun h5 e => hc ⟨h5, e⟩) h
theorem st_l1 {f g : List PC} (hf : FOk f) (out : List Int) (a : Nat) (b : Int) (x : Int) (ha : a ≤ f.length) (r : List Int) (h : Ev (fun k => cohousingref05_Starts.l2 k f g out (((if a < f.length ∧ (pA f a).f0 = x then a + 1 else a) : Nat) : Int) b x) r) : Ev (fun k => cohousingref05_Starts.l1 k f g out (a : Int) b x) r := by
 have hfew := hf.few
 have stop : ∀ c : Nat, c ≤ f.length → (c < f.length → (pA f c).f0 ≠ x) → Ev (fun k => cohousingref05_Starts.l2 k f g out (c : Int) b x) r → Ev (fun k => cohousingref05_Starts.l1 k f g out (c : Int) b x) r := by
  intro c hc hne hr
  refine Ev.step ?_
  by_cases h1 : c < f.length
  ·have h2 : (c : Int) < (f.length : Int) := by omega
   have h3 : 0 ≤ (c : Int) := by omega
   have h4 : ¬ (rd_T51 f (c : Int)).f0 = x := hne h1
   simp only [cohousingref05_Starts.l1, h2, h3, h4, if_true, if_false]
   refine Ev.step ?_
   simp only [cohousingref05_Starts.j6]
   exact hr
  ·have h2 : ¬ (c : Int) < (f.length : Int) := by omega
   simp only [cohousingref05_Starts.l1, h2, if_true, if_false]
   refine Ev.step ?_
   simp only [cohousingref05_Starts.j6]
   exact hr
 by_cases hc : a < f.length ∧ (pA f a).f0 = x
 ·rw [if_pos hc] at h
  have h2 : (a : Int) < (f.length : Int) := by omega
  have h3 : 0 ≤ (a : Int) := by omega
  have h4 : (rd_T51 f (a : Int)).f0 = x := hc.2
  have ew : wrap64 ((a : Int) + 1) = ((a + 1 : Nat) : Int) := by unfold wrap64; omega
  refine Ev.step ?_
  simp only [cohousingref05_Starts.l1, h2, h3, h4, if_true, ew]
  exact stop (a + 1) (by omega) (fun h5 => by have := hf.lt (show a < a + 1 by omega) h5; omega) h
 ·rw [if_neg hc] at h
  exact stop a ha (fun h5 e => hc ⟨h5, e⟩) h
def rnx (f g : List PC) (a b : Nat) : Int := if b < g.length ∧ (pA g b).f0 < (if a < f.length then (pA f a).f0 else 100001) then (pA g b).f0 else (if a < f.length then (pA f a).f0 else 100001)
theorem st_round {f g : List PC} (hf : FOk f) (hg : FOk g) (out : List Int) (ho : out.length ≤ 100000) (a b : Nat) (ha : a ≤ f.length) (hb : b ≤ g.length) (hab : a < f.length ∨ b < g.length) (r : List Int)
  (h : Ev (fun k => cohousingref05_Starts.l0 k f g (out ++ [rnx f g a b]) (((if a < f.length ∧ (pA f a).f0 = rnx f g a b then a + 1 else a) : Nat) : Int) (((if b < g.length ∧ (pA g b).f0 = rnx f g a b then b + 1 else b) : Nat) : Int)) r) : Ev (fun k => cohousingref05_Starts.l0 k f g out (a : Int) (b : Int)) r := by
 have f1 := hf.few
 have f2 := hg.few
 have j4 : ∀ x, x = rnx f g a b → Ev (fun k => cohousingref05_Starts.j4 k f g out (a : Int) (b : Int) x) r := by
  rintro x rfl
  refine Ev.step ?_
  simp only [cohousingref05_Starts.j4]
  exact st_l1 hf out a _ _ ha r (st_l2 hg out ho _ b _ hb r h)
 have j2 : ∀ y, y = (if a < f.length then (pA f a).f0 else 100001) → Ev (fun k => cohousingref05_Starts.j2 k f g out (a : Int) (b : Int) y) r := by
  rintro y hy
  refine Ev.step ?_
  by_cases h1 : b < g.length
  ·have h2 : (b : Int) < (g.length : Int) := by omega
   have h3 : 0 ≤ (b : Int) := by omega
   simp only [cohousingref05_Starts.j2, h2, h3, if_true]
   refine Ev.step ?_
   by_cases h4 : (pA g b).f0 < y
   ·have h5 : decide ((rd_T51 g (b : Int)).f0 < y) = true := decide_eq_true h4
    simp only [cohousingref05_Starts.j3, h5, h2, h3, if_true]
    refine j4 _ ?_
    unfold rnx
    rw [if_pos ⟨h1, by rw [← hy]; exact h4⟩]
   ·have h5 : decide ((rd_T51 g (b : Int)).f0 < y) = false := decide_eq_false h4
    simp only [cohousingref05_Starts.j3, h5, Bool.false_eq_true, if_false]
    refine j4 _ ?_
    unfold rnx
    rw [if_neg (fun h => h4 (by rw [hy]; exact h.2))]
    exact hy
  ·have h2 : ¬ (b : Int) < (g.length : Int) := by omega
   simp only [cohousingref05_Starts.j2, h2, if_false]
   refine Ev.step ?_
   simp only [cohousingref05_Starts.j3, Bool.false_eq_true, if_false]
   refine j4 _ ?_
   unfold rnx
   rw [if_neg (fun h => h1 h.1)]
   exact hy
 have j1 : Ev (fun k => cohousingref05_Starts.j1 k f g out (a : Int) (b : Int) true) r := by
  refine Ev.step ?_
  by_cases h1 : a < f.length
  ·have h2 : (a : Int) < (f.length : Int) := by omega
   have h3 : 0 ≤ (a : Int) := by omega
   simp only [cohousingref05_Starts.j1, h2, h3, if_true]
   exact j2 _ (by rw [if_pos h1])
  ·have h2 : ¬ (a : Int) < (f.length : Int) := by omega
   simp only [cohousingref05_Starts.j1, h2, if_true, if_false]
   exact j2 _ (by rw [if_neg h1])
 refine Ev.step ?_
 by_cases h1 : a < f.length
 ·have h2 : (a : Int) < (f.length : Int) := by omega
  simp only [cohousingref05_Starts.l0, h2, if_true]
  exact j1
 ·have h2 : ¬ (a : Int) < (f.length : Int) := by omega
  have h3 : (b : Int) < (g.length : Int) := by omega
  simp only [cohousingref05_Starts.l0, h2, h3, if_false, decide_true]
  exact j1
def stX (f g : List PC) (M : Nat) : List Int := (List.range M).map (fun j => (stp f g j).2.2)
theorem stX_len (f g : List PC) (M : Nat) : (stX f g M).length = M := by unfold stX; rw [List.length_map, List.length_range]
theorem stX_succ (f g : List PC) (j : Nat) : stX f g (j + 1) = stX f g j ++ [(stp f g j).2.2] := by unfold stX; rw [List.range_succ, List.map_append]; rfl
theorem rnx_nxt {f g : List PC} (hf : FOk f) {i k : Nat} : rnx f g (i + 1) (k + 1) = nxt g k (nxt f i 100001) := by
 have e : nxt f i 100001 = (if i + 1 < f.length then (pA f (i + 1)).f0 else 100001) := by
  unfold nxt mn
  by_cases h : i + 1 < f.length
  ·rw [if_pos h, if_pos h]
   exact if_pos (by have := (hf.in_ h).2; show (pA f (i + 1)).f0 < 100001; omega)
  ·rw [if_neg h, if_neg h]
 unfold rnx
 rw [← e]
 generalize nxt f i 100001 = y
 unfold nxt mn
 by_cases h : k + 1 < g.length
 ·rw [if_pos h]
  show _ = (if (pA g (k + 1)).f0 < y then (pA g (k + 1)).f0 else y)
  by_cases h2 : (pA g (k + 1)).f0 < y
  ·rw [if_pos ⟨h, h2⟩, if_pos h2]
  ·rw [if_neg (fun h3 => h2 h3.2), if_neg h2]
 ·rw [if_neg h, if_neg (fun h3 => h h3.1)]
theorem starts_l0 {f g : List PC} (hf : FOk f) (hg : FOk g) {M : Nat} (hM : StOk f g M) (hM1 : M ≤ 1000) : ∀ (d j : Nat), j + d + 1 = M → Ev (fun k => cohousingref05_Starts.l0 k f g (stX f g (j + 1)) (((stp f g j).1 + 1 : Nat) : Int) (((stp f g j).2.1 + 1 : Nat) : Int)) (stX f g M) := by
 intro d
 induction d with
 | zero =>
  intro j hj
  have hl := hM.last
  rw [← hj] at hl
  obtain ⟨n1, n2, n3, n4, n5, n6⟩ := nxt_in hf hg (inv_at hf hg j)
  have ex := stp_x f g j
  have a1 := (inv_at hf hg j).a.1
  have b1 := (inv_at hf hg j).b.1
  have hl2 : 100000 < nxt g (stp f g j).2.1 (nxt f (stp f g j).1 100001) := by rw [← ex]; exact hl
  have h1 : ¬ (((stp f g j).1 + 1 : Nat) : Int) < (f.length : Int) := fun h => by
   have h3 : (stp f g j).1 + 1 < f.length := by omega
   have := n4 h3
   have := (hf.in_ h3).2
   omega
  have h2 : ¬ (((stp f g j).2.1 + 1 : Nat) : Int) < (g.length : Int) := fun h => by
   have h3 : (stp f g j).2.1 + 1 < g.length := by omega
   have := n5 h3
   have := (hg.in_ h3).2
   omega
  refine Ev.step ?_
  simp only [cohousingref05_Starts.l0, h1, h2, if_false, decide_false]
  refine Ev.step ?_
  simp only [cohousingref05_Starts.j1, Bool.false_eq_true, if_false]
  rw [← hj]
  exact Ev.pure _
 | succ d ih =>
  intro j hj
  have hih := ih (j + 1) (by omega)
  have hup := hM.up (j + 1) (by omega)
  have hj2 := inv_at hf hg j
  obtain ⟨n1, n2, n3, n4, n5, n6⟩ := nxt_in hf hg hj2
  have ex := stp_x f g j
  have ei := stp_i f g j
  have ek := stp_k f g j
  have er := rnx_nxt (g := g) hf (i := (stp f g j).1) (k := (stp f g j).2.1)
  rw [← ex] at er n6
  refine st_round hf hg _ (by rw [stX_len]; omega) _ _ (by have := hj2.a.1; omega) (by have := hj2.b.1; omega) ?_ _ ?_
  ·rcases n6 with e | ⟨l, e⟩ | ⟨l, e⟩
   ·have := hup.1; omega
   ·exact .inl l
   ·exact .inr l
  ·rw [er, ← stX_succ]
   have e1 : (if (stp f g j).1 + 1 < f.length ∧ (pA f ((stp f g j).1 + 1)).f0 = (stp f g (j + 1)).2.2 then (stp f g j).1 + 1 + 1 else (stp f g j).1 + 1) = (stp f g (j + 1)).1 + 1 := by
    rw [ei]
    unfold adv
    by_cases hc : (stp f g j).1 + 1 < f.length ∧ (pA f ((stp f g j).1 + 1)).f0 = (stp f g (j + 1)).2.2
    ·rw [if_pos hc, if_pos hc]
    ·rw [if_neg hc, if_neg hc]
   have e2 : (if (stp f g j).2.1 + 1 < g.length ∧ (pA g ((stp f g j).2.1 + 1)).f0 = (stp f g (j + 1)).2.2 then (stp f g j).2.1 + 1 + 1 else (stp f g j).2.1 + 1) = (stp f g (j + 1)).2.1 + 1 := by
    rw [ek]
    unfold adv
    by_cases hc : (stp f g j).2.1 + 1 < g.length ∧ (pA g ((stp f g j).2.1 + 1)).f0 = (stp f g (j + 1)).2.2
    ·rw [if_pos hc, if_pos hc]
    ·rw [if_neg hc, if_neg hc]
   rw [e1, e2]
   exact hih
theorem starts_ev {f g : List PC} (hf : FOk f) (hg : FOk g) {M : Nat} (hM : StOk f g M) (hM1 : M ≤ 1000) (h1 : 1 ≤ M) : Ev (fun k => cohousingref05_Starts.f k f g) (stX f g M) := by
 unfold cohousingref05_Starts.f
 have a1 := hf.one
 have a2 := hg.one
 have e0 : rnx f g 0 0 = 0 := by
  unfold rnx
  rw [if_pos (show 0 < f.length by omega), hf.zero, if_neg (fun h => by have := h.2; rw [hg.zero] at this; omega)]
 refine st_round hf hg [] (by simp) 0 0 (by omega) (by omega) (.inl (by omega)) _ ?_
 rw [e0, if_pos ⟨by omega, hf.zero⟩, if_pos ⟨by omega, hg.zero⟩]
 have := starts_l0 hf hg hM hM1 (M - 1) 0 (by omega)
 exact this
end Go.Proofs.Ytmhimmodigeeiaa.P
end
section
namespace Go.Proofs.Ytmhimmodigeeiaa.P
open Go.RowKit Go.Proofs.YtmhimmodigeeiaaW.PrintWords Go.Proofs.YtmhimmodigeeiaaW.PrintLast Go.Proofs.YtmhimmodigeeiaaW.PrintMore
set_option linter.unusedVariables false
set_option linter.unusedSimpArgs false
open Classical
structure SOk (s : ST) : Prop where
 lf : LB s.f
 lg : LB s.g
 x0 : 0 ≤ s.x
 x1 : s.x ≤ 100000
 u0 : s.x < s.u
 u1 : s.u ≤ 100001
theorem FOk.pok {f : List PC} (h : FOk f) {i : Nat} (hi : i < f.length) : POk (pA f i) := (h.ok i hi).2
theorem FOk.lb {f : List PC} (h : FOk f) {i : Nat} (hi : i < f.length) : LB (lineL (pA f i)) := lineL_LB (h.pok hi) (h.in_ hi).1 (h.in_ hi).2
theorem stE_ok {f g : List PC} (hf : FOk f) (hg : FOk g) {M j : Nat} (hM : StOk f g M) (hj : j < M) : SOk (stE f g j) := by
 have h := inv_at hf hg j
 have h' := inv_at hf hg (j + 1)
 have hu := hM.up j hj
 exact ⟨hf.lb h.a.1, hg.lb h.b.1, h.lo, hu.1, hu.2, h'.hi⟩
theorem stL_ok {f g : List PC} (hf : FOk f) (hg : FOk g) {M : Nat} (hM : StOk f g M) {s : ST} (hs : s ∈ stL f g M) : SOk s := by
 unfold stL at hs
 obtain ⟨j, hj, rfl⟩ := List.mem_map.1 hs
 exact stE_ok hf hg hM (List.mem_range.1 hj)
theorem SOk.okST {s : ST} (h : SOk s) : okST s = true := decide_eq_true ⟨h.lf.d1, h.lf.d2, h.lg.d1, h.lg.d2⟩
theorem SOk.rng {s : ST} (h : SOk s) : rngST s = true := decide_eq_true ⟨h.x0, by have := h.u0; omega, by have := h.u1; omega⟩
def sumX (s : ST) : LN := ⟨num s.f s.x * s.g.d + num s.g s.x * s.f.d, s.f.s * s.g.d + s.g.s * s.f.d, s.f.d * s.g.d, s.x⟩
theorem sum_bounds {s : ST} (h : SOk s) : ((-12000000000000000 ≤ num s.f s.x * s.g.d ∧ num s.f s.x * s.g.d ≤ 12000000000000000) ∧ (-12000000000000000 ≤ num s.g s.x * s.f.d ∧ num s.g s.x * s.f.d ≤ 12000000000000000)) ∧ ((-100000000000 ≤ s.f.s * s.g.d ∧ s.f.s * s.g.d ≤ 100000000000) ∧ (-100000000000 ≤ s.g.s * s.f.d ∧ s.g.s * s.f.d ≤ 100000000000)) ∧ 1 ≤ s.f.d * s.g.d ∧ s.f.d * s.g.d ≤ 100000000 := by
 have n1 := h.lf.num_in h.x0 (show s.x ≤ 100001 by have := h.x1; omega)
 have n2 := h.lg.num_in h.x0 (show s.x ≤ 100001 by have := h.x1; omega)
 have d1 := h.lf.d1
 have d2 := h.lf.d2
 have d3 := h.lg.d1
 have d4 := h.lg.d2
 have e1 := mul_in n1.1 n1.2 (show -10000 ≤ s.g.d by omega) d4
 have e2 := mul_in n2.1 n2.2 (show -10000 ≤ s.f.d by omega) d2
 have e3 := mul_in h.lf.s1 h.lf.s2 (show -10000 ≤ s.g.d by omega) d4
 have e4 := mul_in h.lg.s1 h.lg.s2 (show -10000 ≤ s.f.d by omega) d2
 have e5 := mul_pos_in d1 d2 d3 d4
 exact ⟨⟨⟨by omega, by omega⟩, by omega, by omega⟩, ⟨⟨by omega, by omega⟩, by omega, by omega⟩, e5.1, by omega⟩
theorem sumX_WB {s : ST} (h : SOk s) : WB (sumX s) := by
 obtain ⟨⟨a1, a2⟩, ⟨b1, b2⟩, c1, c2⟩ := sum_bounds h
 have := h.x0
 have := h.x1
 refine ⟨?_, ?_, ?_, ?_, ?_, ?_, ?_, ?_⟩ <;> (unfold sumX; dsimp only; omega)
theorem sumL_eq {s : ST} (h : SOk s) : sumL s = sumX s := by
 have e1 := atL_eq h.lf.w h.x0 (show s.x ≤ 100001 by have := h.x1; omega)
 have e2 := atL_eq h.lg.w h.x0 (show s.x ≤ 100001 by have := h.x1; omega)
 obtain ⟨⟨a1, a2⟩, ⟨b1, b2⟩, c1, c2⟩ := sum_bounds h
 unfold sumX
 show (⟨_, _, _, _⟩ : LN) = _
 rw [e1, e2]
 clear e1 e2
 rw [wrap_id (n := num s.f s.x * s.g.d) (by omega) (by omega), wrap_id (n := num s.g s.x * s.f.d) (by omega) (by omega), wrap_id (n := s.f.s * s.g.d) (by omega) (by omega), wrap_id (n := s.g.s * s.f.d) (by omega) (by omega), wrap_id (n := s.f.d * s.g.d) (by omega) (by omega), wrap_id (n := num s.f s.x * s.g.d + num s.g s.x * s.f.d) (by omega) (by omega), wrap_id (n := s.f.s * s.g.d + s.g.s * s.f.d) (by omega) (by omega)]
def evA (s : ST) : LN × Int := (sumX s, s.x)
theorem evA_ok {s : ST} (h : SOk s) : EOk (evA s) := ⟨sumX_WB h, h.x0, h.x1⟩
theorem step_last (b : BD) (e : LN × Int) : (stepB b e).last = e.1 := by unfold stepB; split <;> rfl
theorem addF_eq : ∀ (xs : List ST) (b : BD), (∀ s ∈ xs, SOk s) → (b.out ≠ [] → WB b.last) → addF kP b xs = some ((xs.map evA).foldl stepB b)
 | [], b, _, _ => rfl
 | s :: t, b, hs, hb => by
  have h := hs s (List.mem_cons_self ..)
  have hw := sumX_WB h
  unfold addF
  rw [sumL_eq h, putO_eq hw h.x0 (by have := h.x1; omega) hb]
  simp only [Option.bind_some]
  rw [addF_eq t _ (fun s' h' => hs s' (List.mem_cons_of_mem _ h')) (fun _ => by rw [step_last]; exact hw)]
  rfl
def addEs (f g : List PC) (M : Nat) : List (LN × Int) := (stL f g M).map evA
theorem add_eq {f g : List PC} (hf : FOk f) (hg : FOk g) {M : Nat} (hM : stM f g = some M) : piecewise_Add.f f g = some (resS (outM none (addEs f g M))) := by
 obtain ⟨h1, h2⟩ := stM_at hM
 have hok : ∀ s ∈ stL f g M, SOk s := fun s hs => stL_ok hf hg h1 hs
 have hkV : 100 ≤ kV := by unfold kV; omega
 unfold piecewise_Add.f
 rw [valid_eq f hkV, valid_eq g hkV, decide_eq_true hf, decide_eq_true hg, hM]
 simp only [Option.bind_some, if_true]
 rw [if_pos (List.all_eq_true.2 (fun s hs => (hok s hs).okST)), addF_eq _ b00 hok (fun h => absurd rfl h)]
 simp only [Option.bind_some]
 rw [resO_eq]
 rfl
theorem add_bad {f g : List PC} (h : ¬ (FOk f ∧ FOk g)) : piecewise_Add.f f g = some ([], 1) := by
 have hkV : 100 ≤ kV := by unfold kV; omega
 unfold piecewise_Add.f
 rw [valid_eq f hkV, valid_eq g hkV]
 simp only [Option.bind_some, decide_eq_true_eq]
 by_cases hf : FOk f
 ·rw [if_pos hf, if_neg (fun hg => h ⟨hf, hg⟩)]
 ·rw [if_neg hf]
theorem POk.pb {p : PC} (h : POk p) : PB p := by
 obtain ⟨⟨a1, a2, a3, a4, a5⟩, ⟨b1, b2, b3, b4, b5⟩, c1, c2, c3, c4⟩ := h
 constructor <;> omega
theorem red_slope {p : PC} (h : POk p) : red (lineL p).s (lineL p).d = (p.f2.f0, p.f2.f1) := by
 rw [lineL_eq h]
 obtain ⟨⟨a1, a2, a3, a4, a5⟩, ⟨b1, b2, b3, b4, b5⟩, c1, c2, c3, c4⟩ := h
 have hp := mul_pos_in a1 c1 b1 c2
 rw [← red_id (n := p.f2.f0) (d := p.f2.f1) (by omega) b5]
 refine red_eq (by dsimp only; omega) (by omega) ?_
 dsimp only
 rw [Int.mul_assoc]
theorem lineP_ev {p : PC} (h : POk p) {x : Int} (h0 : 0 ≤ p.f0) (h1 : p.f0 ≤ 100000) (h2 : 0 ≤ x) (h3 : x ≤ 100001) : Ev (fun k => cohousingref05_Line.f k p.f0 p.f1.f0 p.f1.f1 p.f2.f0 p.f2.f1 x) (red (num (lineL p) x) (lineL p).d) := by
 rw [lineL_pl h]
 exact line_ev h.pb (by omega) (by omega)
theorem sum_ev {a b c d : Int} (ha : -1200000000000 ≤ a) (ha' : a ≤ 1200000000000) (hb : 1 ≤ b) (hb' : b ≤ 10000) (hc : -1200000000000 ≤ c) (hc' : c ≤ 1200000000000) (hd : 1 ≤ d) (hd' : d ≤ 10000) : Ev (fun k => cohousingref05_Sum.f k a b c d) (red (a * d + c * b) (b * d)) := by
 have e1 := mul_in ha ha' (show -10000 ≤ d by omega) hd'
 have e2 := mul_in hc hc' (show -10000 ≤ b by omega) hb'
 have e3 := mul_pos_in hb hb' hd hd'
 unfold cohousingref05_Sum.f
 rw [wrap_id (n := a * d) (by omega) (by omega), wrap_id (n := c * b) (by omega) (by omega), wrap_id (n := b * d) (by omega) (by omega), wrap_id (n := a * d + c * b) (by omega) (by omega)]
 exact Ev.bnd (reduce_ev (by omega) (by omega) (by omega) (by omega)) (Ev.pure _)
theorem red_LB {l : LN} (h : LB l) {x : Int} (h0 : 0 ≤ x) (h1 : x ≤ 100001) : (-1200000000000 ≤ (red (num l x) l.d).1 ∧ (red (num l x) l.d).1 ≤ 1200000000000) ∧ 1 ≤ (red (num l x) l.d).2 ∧ (red (num l x) l.d).2 ≤ 10000 := by
 have hd : 0 < l.d := by have := h.d1; omega
 have hd2 := h.d2
 have n := h.num_in h0 h1
 have a1 := red_bound hd n.1 n.2
 have a3 := red_den (n := num l x) hd
 have a5 := (red_small (n := num l x) hd).2
 omega
theorem num_fr (n s d x : Int) : num ⟨n, s, d, x⟩ x = n := by
 unfold num
 dsimp only
 rw [Int.sub_self, Int.mul_zero, Int.add_zero]
theorem addEs_len (f g : List PC) (M : Nat) : (addEs f g M).length = M := by unfold addEs; rw [List.length_map, stL_len]
theorem addEs_succ (f g : List PC) (j : Nat) : addEs f g (j + 1) = addEs f g j ++ [evA (stE f g j)] := by
 unfold addEs stL
 rw [List.range_succ, List.map_append, List.map_append]
 rfl
theorem rd_stX {f g : List PC} {M j : Nat} (h : j < M) : rd (stX f g M) (j : Int) = (stp f g j).2.2 := by
 unfold stX
 simp [rd, List.getD_eq_getElem?_getD, h]
theorem radd_l0 {f g : List PC} (hf : FOk f) (hg : FOk g) {M : Nat} (hM : StOk f g M) (hM1 : M ≤ 1000) (h1 : 1 ≤ M) : ∀ (d j : Nat), j + d = M → Ev (fun k => cohousingref05_Add.l0 k f g (pcs (addEs f g j)) (stX f g M) (j : Int)) (resS (outM none (addEs f g M))) := by
 intro d
 induction d with
 | zero =>
  intro j hj
  have hl : ¬ (j : Int) < ((stX f g M).length : Int) := by rw [stX_len]; omega
  have ej : j = M := by omega
  refine Ev.step ?_
  simp only [cohousingref05_Add.l0, hl, if_false]
  rw [ej]
  exact Ev.bnd (result_ev _ (fun e he => by
   unfold addEs at he
   obtain ⟨s, hs, rfl⟩ := List.mem_map.1 he
   exact evA_ok (stL_ok hf hg hM hs)) (by rw [addEs_len]; omega) (by rw [addEs_len]; omega)) (Ev.pure _)
 | succ d ih =>
  intro j hj
  have hjM : j < M := by omega
  have hl : (j : Int) < ((stX f g M).length : Int) := by rw [stX_len]; omega
  have h2 : 0 ≤ (j : Int) := by omega
  have ew : wrap64 ((j : Int) + 1) = ((j + 1 : Nat) : Int) := by unfold wrap64; omega
  have hs := stE_ok hf hg hM hjM
  have hi := inv_at hf hg j
  have ha := hf.pok hi.a.1
  have hb := hg.pok hi.b.1
  have hx0 : 0 ≤ (stp f g j).2.2 := hs.x0
  have hx1 : (stp f g j).2.2 ≤ 100001 := by have h : (stp f g j).2.2 ≤ 100000 := hs.x1; omega
  have h7 : (pcs (addEs f g j)).length < 3518437208883 := by rw [pcs_len, addEs_len]; omega
  have b1 := red_LB hs.lf hx0 hx1
  have b2 := red_LB hs.lg hx0 hx1
  have c1 : POk (pA f (stp f g j).1) := ha
  have c2 : POk (pA g (stp f g j).2.1) := hb
  obtain ⟨_, ⟨q1, q2, q3, q4, q5⟩, _, q6, q7, q8⟩ := c1
  obtain ⟨_, ⟨r1, r2, r3, r4, r5⟩, _, r6, r7, r8⟩ := c2
  have hsl := sum_ev (a := (pA f (stp f g j).1).f2.f0) (b := (pA f (stp f g j).1).f2.f1) (c := (pA g (stp f g j).2.1).f2.f0) (d := (pA g (stp f g j).2.1).f2.f1) (by omega) (by omega) q1 (by omega) (by omega) (by omega) r1 (by omega)
  refine Ev.step ?_
  simp only [cohousingref05_Add.l0, hl, h2, if_true, rd_stX hjM, h7, ew]
  refine Ev.bnd (piece_ev hf hi.a) (Ev.bnd (piece_ev hg hi.b) (Ev.bnd (lineP_ev ha (hf.in_ hi.a.1).1 (hf.in_ hi.a.1).2 hx0 hx1) (Ev.bnd (lineP_ev hb (hg.in_ hi.b.1).1 (hg.in_ hi.b.1).2 hx0 hx1) (Ev.bnd (sum_ev b1.1.1 b1.1.2 b1.2.1 b1.2.2 b2.1.1 b2.1.2 b2.2.1 b2.2.2) (Ev.bnd hsl ?_)))))
  have hih := ih (j + 1) (by omega)
  rw [addEs_succ] at hih
  have e : pcs (addEs f g j ++ [evA (stE f g j)]) = pcs (addEs f g j) ++ [pc (sumX (stE f g j)) (stp f g j).2.2] := by
   unfold pcs
   rw [List.map_append]
   rfl
  rw [e] at hih
  have ep : pc (sumX (stE f g j)) (stp f g j).2.2 = (⟨(stp f g j).2.2, (⟨(red ((red (num (stE f g j).f (stE f g j).x) (stE f g j).f.d).1 * (red (num (stE f g j).g (stE f g j).x) (stE f g j).g.d).2 + (red (num (stE f g j).g (stE f g j).x) (stE f g j).g.d).1 * (red (num (stE f g j).f (stE f g j).x) (stE f g j).f.d).2) ((red (num (stE f g j).f (stE f g j).x) (stE f g j).f.d).2 * (red (num (stE f g j).g (stE f g j).x) (stE f g j).g.d).2)).1, (red ((red (num (stE f g j).f (stE f g j).x) (stE f g j).f.d).1 * (red (num (stE f g j).g (stE f g j).x) (stE f g j).g.d).2 + (red (num (stE f g j).g (stE f g j).x) (stE f g j).g.d).1 * (red (num (stE f g j).f (stE f g j).x) (stE f g j).f.d).2) ((red (num (stE f g j).f (stE f g j).x) (stE f g j).f.d).2 * (red (num (stE f g j).g (stE f g j).x) (stE f g j).g.d).2)).2⟩ : RT), (⟨(red ((pA f (stp f g j).1).f2.f0 * (pA g (stp f g j).2.1).f2.f1 + (pA g (stp f g j).2.1).f2.f0 * (pA f (stp f g j).1).f2.f1) ((pA f (stp f g j).1).f2.f1 * (pA g (stp f g j).2.1).f2.f1)).1, (red ((pA f (stp f g j).1).f2.f0 * (pA g (stp f g j).2.1).f2.f1 + (pA g (stp f g j).2.1).f2.f0 * (pA f (stp f g j).1).f2.f1) ((pA f (stp f g j).1).f2.f1 * (pA g (stp f g j).2.1).f2.f1)).2⟩ : RT)⟩ : PC) := by
   have d1 : 0 < (stE f g j).f.d := by have := hs.lf.d1; omega
   have d2 : 0 < (stE f g j).g.d := by have := hs.lg.d1; omega
   have s1 := red_sum (n := num (stE f g j).f (stE f g j).x) (n' := num (stE f g j).g (stE f g j).x) d1 d2
   have s2 := red_sum (n := (stE f g j).f.s) (n' := (stE f g j).g.s) d1 d2
   have t1 : red (stE f g j).f.s (stE f g j).f.d = ((pA f (stp f g j).1).f2.f0, (pA f (stp f g j).1).f2.f1) := red_slope ha
   have t2 : red (stE f g j).g.s (stE f g j).g.d = ((pA g (stp f g j).2.1).f2.f0, (pA g (stp f g j).2.1).f2.f1) := red_slope hb
   rw [t1, t2] at s2
   rw [s1, s2]
   unfold pc
   have en : num (sumX (stE f g j)) (stp f g j).2.2 = num (stE f g j).f (stE f g j).x * (stE f g j).g.d + num (stE f g j).g (stE f g j).x * (stE f g j).f.d := num_fr _ _ _ _
   rw [en]
   rfl
  rw [ep] at hih
  exact hih
theorem radd_ev {f g : List PC} (hf : FOk f) (hg : FOk g) (hIf : ∀ p ∈ f, IBP p) (hIg : ∀ p ∈ g, IBP p) {M : Nat} (hM : StOk f g M) (hM1 : M ≤ 1000) (h1 : 1 ≤ M) : Ev (fun k => cohousingref05_Add.f k f g) (resS (outM none (addEs f g M))) := by
 unfold cohousingref05_Add.f
 refine Ev.bnd (rvalid_ev f hIf) (Ev.bnd (rvalid_ev g hIg) ?_)
 simp only [decide_eq_true hf, decide_eq_true hg, if_true, Bool.not_true]
 refine Ev.step ?_
 simp only [cohousingref05_Add.j0, Bool.false_eq_true, if_false]
 exact Ev.bnd (starts_ev hf hg hM hM1 h1) (radd_l0 hf hg hM hM1 h1 M 0 (by omega))
theorem radd_bad {f g : List PC} (h : ¬ (FOk f ∧ FOk g)) (hIf : ∀ p ∈ f, IBP p) (hIg : ∀ p ∈ g, IBP p) : Ev (fun k => cohousingref05_Add.f k f g) ([], 1) := by
 have hj : Ev (fun k => cohousingref05_Add.j0 k f g true) ([], 1) := by
  refine Ev.step ?_
  simp only [cohousingref05_Add.j0, if_true]
  exact Ev.pure _
 unfold cohousingref05_Add.f
 refine Ev.bnd (rvalid_ev f hIf) (Ev.bnd (rvalid_ev g hIg) ?_)
 by_cases hf : FOk f
 ·have hg : ¬ FOk g := fun hg => h ⟨hf, hg⟩
  simp only [decide_eq_true hf, decide_eq_false hg, if_true, Bool.not_false]
  exact hj
 ·simp only [decide_eq_false hf, Bool.false_eq_true, if_false]
  exact hj
end Go.Proofs.Ytmhimmodigeeiaa.P
end
section
namespace Go.Proofs.Ytmhimmodigeeiaa.P
open Go.RowKit Go.Proofs.YtmhimmodigeeiaaW.PrintWords Go.Proofs.YtmhimmodigeeiaaW.PrintLast Go.Proofs.YtmhimmodigeeiaaW.PrintMore
set_option linter.unusedVariables false
set_option linter.unusedSimpArgs false
open Classical
def evL (s : ST) : List (LN × Int) := (oneS s, s.x) :: (if s.x + kS s < s.u then [(twoS s, s.x + kS s)] else [])
theorem one_or (s : ST) : oneS s = s.f ∨ oneS s = s.g := by unfold oneS; split <;> simp
theorem two_or (s : ST) : twoS s = s.f ∨ twoS s = s.g := by unfold twoS; split <;> simp
theorem SOk.one {s : ST} (h : SOk s) : LB (oneS s) := by
 rcases one_or s with e | e
 ·rw [e]; exact h.lf
 ·rw [e]; exact h.lg
theorem SOk.two {s : ST} (h : SOk s) : LB (twoS s) := by
 rcases two_or s with e | e
 ·rw [e]; exact h.lf
 ·rw [e]; exact h.lg
theorem evL_ok {s : ST} (h : SOk s) : ∀ e ∈ evL s, EOk e := by
 have hk := kS_le h.rng
 intro e he
 unfold evL at he
 rcases List.mem_cons.1 he with rfl | he
 ·exact ⟨h.one.w, h.x0, h.x1⟩
 ·split at he
  ·rename_i hlt
   rw [List.mem_singleton.1 he]
   exact ⟨h.two.w, by have := h.x0; show 0 ≤ s.x + kS s; omega, by have := h.u1; show s.x + kS s ≤ 100000; omega⟩
  ·cases he
theorem leastO_eq {b : BD} {s : ST} (h : SOk s) (hb : b.out ≠ [] → WB b.last) : leastO kP b s = some ((evL s).foldl stepB b) := by
 have hk := kS_le h.rng
 have h0 := h.x0
 have h1 := h.x1
 have h2 := h.u1
 unfold leastO evL
 rw [putO_eq h.one.w h0 (by omega) hb]
 simp only [Option.bind_some]
 by_cases hlt : s.x + kS s < s.u
 ·rw [if_pos hlt, if_pos hlt, putO_eq h.two.w (by omega) (by omega) (fun _ => by rw [step_last]; exact h.one.w)]
  rfl
 ·rw [if_neg hlt, if_neg hlt]
  rfl
theorem fold_last : ∀ (es : List (LN × Int)) (b : BD) (h : es ≠ []), (es.foldl stepB b).last = (es.getLast h).1
 | [e], b, _ => by simp [step_last]
 | e :: e' :: t, b, _ => by
  show ((e' :: t).foldl stepB (stepB b e)).last = _
  rw [fold_last (e' :: t) (stepB b e) (by simp)]
  rfl
theorem leastF_eq : ∀ (xs : List ST) (b : BD), (∀ s ∈ xs, SOk s) → (b.out ≠ [] → WB b.last) → leastF kP b xs = some ((xs.flatMap evL).foldl stepB b)
 | [], b, _, _ => rfl
 | s :: t, b, hs, hb => by
  have h := hs s (List.mem_cons_self ..)
  unfold leastF
  rw [leastO_eq h hb]
  simp only [Option.bind_some]
  rw [leastF_eq t _ (fun s' h' => hs s' (List.mem_cons_of_mem _ h')) (fun _ => by
   have hne : evL s ≠ [] := by unfold evL; simp
   rw [fold_last _ _ hne]
   exact (evL_ok h _ (List.getLast_mem hne)).1)]
  rw [List.flatMap_cons, List.foldl_append]
def leastEs (f g : List PC) (M : Nat) : List (LN × Int) := (stL f g M).flatMap evL
theorem leastEs_succ (f g : List PC) (j : Nat) : leastEs f g (j + 1) = leastEs f g j ++ evL (stE f g j) := by
 unfold leastEs stL
 rw [List.range_succ, List.map_append, List.flatMap_append]
 simp
theorem evL_len (s : ST) : 1 ≤ (evL s).length ∧ (evL s).length ≤ 2 := by
 unfold evL
 split <;> simp
theorem leastEs_len (f g : List PC) : ∀ M, M ≤ (leastEs f g M).length ∧ (leastEs f g M).length ≤ 2 * M
 | 0 => by simp [leastEs, stL]
 | j + 1 => by
  have h1 := leastEs_len f g j
  have h2 := evL_len (stE f g j)
  rw [leastEs_succ, List.length_append]
  omega
theorem leastEs_ok {f g : List PC} (hf : FOk f) (hg : FOk g) {M : Nat} (hM : StOk f g M) : ∀ e ∈ leastEs f g M, EOk e := by
 intro e he
 unfold leastEs at he
 obtain ⟨s, hs, he⟩ := List.mem_flatMap.1 he
 exact evL_ok (stL_ok hf hg hM hs) e he
theorem least_eq {f g : List PC} (hf : FOk f) (hg : FOk g) {M : Nat} (hM : stM f g = some M) : piecewise_Least.f f g = some (resS (outM none (leastEs f g M))) := by
 obtain ⟨h1, h2⟩ := stM_at hM
 have hok : ∀ s ∈ stL f g M, SOk s := fun s hs => stL_ok hf hg h1 hs
 have hkV : 100 ≤ kV := by unfold kV; omega
 unfold piecewise_Least.f
 rw [valid_eq f hkV, valid_eq g hkV, decide_eq_true hf, decide_eq_true hg, hM]
 simp only [Option.bind_some, if_true]
 rw [if_pos (List.all_eq_true.2 (fun s hs => by unfold okL; rw [(hok s hs).okST, (hok s hs).rng]; rfl)), leastF_eq _ b00 hok (fun h => absurd rfl h)]
 simp only [Option.bind_some]
 rw [resO_eq]
 rfl
theorem least_bad_eq {f g : List PC} (h : ¬ (FOk f ∧ FOk g)) : piecewise_Least.f f g = some ([], 1) := by
 have hkV : 100 ≤ kV := by unfold kV; omega
 unfold piecewise_Least.f
 rw [valid_eq f hkV, valid_eq g hkV]
 simp only [Option.bind_some, decide_eq_true_eq]
 by_cases hf : FOk f
 ·rw [if_pos hf, if_neg (fun hg => h ⟨hf, hg⟩)]
 ·rw [if_neg hf]
theorem even_num (l m : LN) : Even (fun x => num l x * m.d - num m x * l.d) := by
 refine ⟨l.s * m.d - m.s * l.d, fun y z => ?_⟩
 simp only [num, Int.mul_sub, Int.sub_mul, Int.add_mul]
 have e1 : l.s * z * m.d = l.s * m.d * z := by rw [Int.mul_assoc, Int.mul_comm z, ← Int.mul_assoc]
 have e2 : l.s * y * m.d = l.s * m.d * y := by rw [Int.mul_assoc, Int.mul_comm y, ← Int.mul_assoc]
 have e3 : m.s * z * l.d = m.s * l.d * z := by rw [Int.mul_assoc, Int.mul_comm z, ← Int.mul_assoc]
 have e4 : m.s * y * l.d = m.s * l.d * y := by rw [Int.mul_assoc, Int.mul_comm y, ← Int.mul_assoc]
 rw [e1, e2, e3, e4]
 omega
def lt (l m : LN) (x : Int) : Prop := num l x * m.d < num m x * l.d
theorem lt_mono {l m : LN} {x y z : Int} (h1 : x ≤ y) (h2 : y ≤ z) (h : ¬ (lt l m y ↔ lt l m x)) : ¬ (lt l m z ↔ lt l m x) := by
 have he := even_num m l
 have hd : ∀ x, lt l m x ↔ 0 < num m x * l.d - num l x * m.d := fun x => by unfold lt; omega
 simp only [hd] at h ⊢
 by_cases hx : 0 < num m x * l.d - num l x * m.d
 ·have hy : num m y * l.d - num l y * m.d ≤ 0 := by
   rcases Int.lt_or_le 0 (num m y * l.d - num l y * m.d) with h3 | h3
   ·exact absurd ⟨fun _ => hx, fun _ => h3⟩ h
   ·exact h3
  have hz := even_down he (x := x) hx h1 h2 hy
  intro h3
  have := h3.2 hx
  have hz' : num m z * l.d - num l z * m.d ≤ 0 := hz
  omega
 ·have hy : 0 < num m y * l.d - num l y * m.d := by
   rcases Int.lt_or_le 0 (num m y * l.d - num l y * m.d) with h3 | h3
   ·exact h3
   ·exact absurd ⟨fun h4 => absurd h4 (by omega), fun h4 => absurd h4 hx⟩ h
  have hz := even_up he (x := x) (by show num m x * l.d - num l x * m.d ≤ 0; omega) h1 h2 hy
  intro h3
  exact hx (h3.1 hz)
theorem SOk.less {s : ST} (h : SOk s) {y : Int} (h0 : s.x ≤ y) (h1 : y < s.u) : lessB s.g s.f y = decide (lt s.g s.f y) := (lessB_eq h.lg h.lf (by have := h.x0; omega) (by have := h.u1; omega)).trans (decide_eq_decide.2 Iff.rfl)
structure Chg (s : ST) (c : Int) : Prop where
 lo : s.x < c
 hi : c ≤ s.u
 before : ∀ y, s.x ≤ y → y < c → (lt s.g s.f y ↔ lt s.g s.f s.x)
 at_ : c < s.u → ¬ (lt s.g s.f c ↔ lt s.g s.f s.x)
theorem chg_one {s : ST} {c c' : Int} (h : Chg s c) (h' : Chg s c') : c = c' := by
 rcases Int.lt_trichotomy c c' with h1 | h1 | h1
 ·exact absurd (h'.before c (by have := h.lo; omega) h1) (h.at_ (by have := h'.hi; omega))
 ·exact h1
 ·exact absurd (h.before c' (by have := h'.lo; omega) h1) (h'.at_ (by have := h.hi; omega))
theorem over_iff {s : ST} (h : SOk s) : overS s = decide (lt s.g s.f s.x) := h.less (Int.le_refl _) h.u0
theorem kS_chg {s : ST} (h : SOk s) : Chg s (s.x + kS s) := by
 have h0 := h.x0
 have h1 := h.x1
 have h2 := h.u0
 have h3 := h.u1
 have ep : ∀ a : Int, 0 ≤ a → a < s.u - s.x → (leastP s (overS s) a = true ↔ ¬ (lt s.g s.f (s.x + a) ↔ lt s.g s.f s.x)) := fun a ha hb => by
  unfold leastP
  rw [wrap_id (by omega) (by omega), h.less (by omega) (by omega), over_iff h]
  by_cases c1 : lt s.g s.f (s.x + a) <;> by_cases c2 : lt s.g s.f s.x <;> simp [c1, c2]
 have hs := bsearch_spec (leastP s (overS s)) 0 (s.u - s.x) (fun a b ha hab hb hp => by
  rw [ep a ha (by omega)] at hp
  rw [ep b (by omega) hb]
  exact lt_mono (by omega) (by omega) hp) (s.u - s.x).toNat 0 (s.u - s.x) (Int.le_refl _) (by omega) (Int.le_refl _) (by omega) (fun a h1 h2 => by omega) (fun h => by omega)
 have ek : kS s = bsearch (leastP s (overS s)) (s.u - s.x).toNat 0 (s.u - s.x) := rfl
 rw [← ek] at hs
 obtain ⟨g1, g2, g3, g4⟩ := hs
 have gb : ∀ y, s.x ≤ y → y < s.x + kS s → (lt s.g s.f y ↔ lt s.g s.f s.x) := fun y hy1 hy2 => by
  have g5 := g3 (y - s.x) (by omega) (by omega)
  have g6 := ep (y - s.x) (by omega) (by omega)
  rw [show s.x + (y - s.x) = y by omega] at g6
  by_cases hc : lt s.g s.f y ↔ lt s.g s.f s.x
  ·exact hc
  ·rw [g6.2 hc] at g5; cases g5
 have ga : s.x + kS s < s.u → ¬ (lt s.g s.f (s.x + kS s) ↔ lt s.g s.f s.x) := fun hlt => (ep _ g1 (by omega)).1 (g4 (by omega))
 refine ⟨?_, by omega, gb, ga⟩
 rcases Int.lt_or_le s.x (s.x + kS s) with h5 | h5
 ·exact h5
 ·have e : kS s = 0 := by omega
  have := ga (by omega)
  rw [e, Int.add_zero] at this
  exact absurd Iff.rfl this
theorem cmp_ev {l m : LN} (hl : LB l) (hm : LB m) {x : Int} (h0 : 0 ≤ x) (h1 : x ≤ 100001) : ∃ c, cohousingref05_Compare.f (red (num l x) l.d).1 (red (num l x) l.d).2 (red (num m x) m.d).1 (red (num m x) m.d).2 = some c ∧ (c < 0 ↔ lt l m x) ∧ (c ≤ 0 ↔ ¬ lt m l x) := by
 have b1 := red_LB hl h0 h1
 have b2 := red_LB hm h0 h1
 have e1 := mul_in b1.1.1 b1.1.2 (show -10000 ≤ (red (num m x) m.d).2 by omega) b2.2.2
 have e2 := mul_in b2.1.1 b2.1.2 (show -10000 ≤ (red (num l x) l.d).2 by omega) b1.2.2
 have d1 : 0 < l.d := by have := hl.d1; omega
 have d2 : 0 < m.d := by have := hm.d1; omega
 have c1 := red_cmp (n := num l x) (n' := num m x) d1 d2
 have c2 := red_cmp (n := num m x) (n' := num l x) d2 d1
 unfold cohousingref05_Compare.f
 rw [wrap_id (by omega) (by omega), wrap_id (by omega) (by omega)]
 unfold lt
 by_cases h2 : (red (num l x) l.d).1 * (red (num m x) m.d).2 < (red (num m x) m.d).1 * (red (num l x) l.d).2
 ·rw [if_pos h2]
  exact ⟨_, rfl, ⟨fun _ => c1.1 h2, fun _ => by omega⟩, ⟨fun _ h3 => by have := c2.2 h3; omega, fun _ => by omega⟩⟩
 ·rw [if_neg h2]
  by_cases h3 : (red (num l x) l.d).1 * (red (num m x) m.d).2 > (red (num m x) m.d).1 * (red (num l x) l.d).2
  ·rw [if_pos h3]
   exact ⟨_, rfl, ⟨fun h => by omega, fun h => absurd (c1.2 h) h2⟩, ⟨fun h => by omega, fun h => absurd (c2.1 h3) h⟩⟩
  ·rw [if_neg h3]
   exact ⟨_, rfl, ⟨fun h => by omega, fun h => absurd (c1.2 h) h2⟩, ⟨fun _ h => h3 (c2.2 h), fun _ => by omega⟩⟩
theorem taken_ev {p q : PC} (hp : POk p) (hq : POk q) (hp0 : 0 ≤ p.f0) (hp1 : p.f0 ≤ 100000) (hq0 : 0 ≤ q.f0) (hq1 : q.f0 ≤ 100000) (b : Bool) {x : Int} (h0 : 0 ≤ x) (h1 : x ≤ 100001) :
  Ev (fun k => cohousingref05_taken.f k p.f0 p.f1.f0 p.f1.f1 p.f2.f0 p.f2.f1 q.f0 q.f1.f0 q.f1.f1 q.f2.f0 q.f2.f1 b x) (x, (pc (if b = true then lineL p else lineL q) x).f1.f0, (pc (if b = true then lineL p else lineL q) x).f1.f1, (pc (if b = true then lineL p else lineL q) x).f2.f0, (pc (if b = true then lineL p else lineL q) x).f2.f1) := by
 unfold cohousingref05_taken.f
 cases b with
 | true =>
  simp only [if_true]
  have e : ((pc (lineL p) x).f2.f0, (pc (lineL p) x).f2.f1) = (p.f2.f0, p.f2.f1) := red_slope hp
  rw [(Prod.mk.inj e).1, (Prod.mk.inj e).2]
  exact Ev.bnd (lineP_ev hp hp0 hp1 h0 h1) (Ev.pure _)
 | false =>
  simp only [Bool.false_eq_true, if_false]
  have e : ((pc (lineL q) x).f2.f0, (pc (lineL q) x).f2.f1) = (q.f2.f0, q.f2.f1) := red_slope hq
  rw [(Prod.mk.inj e).1, (Prod.mk.inj e).2]
  exact Ev.bnd (lineP_ev hq hq0 hq1 h0 h1) (Ev.pure _)
noncomputable def refP (lp lq : LN) (first : Bool) (m : Int) : Bool := decide (¬ lt lq lp m) == first
theorem rleast_l1 {f g : List PC} {p q : PC} (hp : POk p) (hq : POk q) (hp0 : 0 ≤ p.f0) (hp1 : p.f0 ≤ 100000) (hq0 : 0 ≤ q.f0) (hq1 : q.f0 ≤ 100000) (l : List PC) (hl : l.length ≤ 100000) (xs : List Int) (j : Nat) (hj : j ≤ 100000) (e : Int) (first : Bool) (res : List PC × Int) :
  ∀ (n : Nat) (lo hi : Int), 0 ≤ lo → lo < hi → hi ≤ 100001 → hi - lo ≤ n + 1 → Ev (fun k => cohousingref05_Least.l0 k f g (l ++ (if rsearch (refP (lineL p) (lineL q) first) n lo hi < e then [pc (if first = true then lineL q else lineL p) (rsearch (refP (lineL p) (lineL q) first) n lo hi)] else [])) xs ((j + 1 : Nat) : Int)) res →
  Ev (fun k => cohousingref05_Least.l1 k f g l xs (j : Int) e first lo hi p.f0 p.f1.f0 p.f1.f1 p.f2.f0 p.f2.f1 q.f0 q.f1.f0 q.f1.f1 q.f2.f0 q.f2.f1) res := by
 have hlp := lineL_LB hp hp0 hp1
 have hlq := lineL_LB hq hq0 hq1
 have hll : l.length < 3518437208883 := by omega
 have ew : wrap64 ((j : Int) + 1) = ((j + 1 : Nat) : Int) := by unfold wrap64; omega
 have stop : ∀ (lo hi : Int), 0 ≤ lo → lo < hi → hi ≤ 100001 → ¬ hi - lo > 1 → Ev (fun k => cohousingref05_Least.l0 k f g (l ++ (if hi < e then [pc (if first = true then lineL q else lineL p) hi] else [])) xs ((j + 1 : Nat) : Int)) res → Ev (fun k => cohousingref05_Least.l1 k f g l xs (j : Int) e first lo hi p.f0 p.f1.f0 p.f1.f1 p.f2.f0 p.f2.f1 q.f0 q.f1.f0 q.f1.f1 q.f2.f0 q.f2.f1) res := by
  intro lo hi h0 h1 h2 h3 hr
  have e1 : wrap64 (hi - lo) = hi - lo := wrap_id (by omega) (by omega)
  refine Ev.step ?_
  simp only [cohousingref05_Least.l1, e1, h3, if_false, ew]
  by_cases h4 : hi < e
  ·simp only [h4, if_true] at hr ⊢
   refine Ev.bnd (taken_ev hp hq hp0 hp1 hq0 hq1 (!first) (show 0 ≤ hi by omega) h2) ?_
   simp only [hll, if_true]
   have e2 : (if (!first) = true then lineL p else lineL q) = (if first = true then lineL q else lineL p) := by cases first <;> rfl
   rw [e2]
   exact hr
  ·simp only [h4, if_false, List.append_nil] at hr ⊢
   exact hr
 intro n
 induction n with
 | zero =>
  intro lo hi h0 h1 h2 h3 hr
  exact stop lo hi h0 h1 h2 (by omega) hr
 | succ n ih =>
  intro lo hi h0 h1 h2 h3 hr
  by_cases h4 : hi - lo > 1
  ·have e1 : wrap64 (hi - lo) = hi - lo := wrap_id (by omega) (by omega)
   have e2 : wrap64 (Int.tdiv (wrap64 (lo + hi)) 2) = (lo + hi) / 2 := by
    rw [wrap_id (n := lo + hi) (by omega) (by omega), Int.tdiv_eq_ediv_of_nonneg (by omega), wrap_id (by omega) (by omega)]
   obtain ⟨c, hc1, hc2, hc3⟩ := cmp_ev hlp hlq (x := (lo + hi) / 2) (by omega) (by omega)
   unfold rsearch at hr
   rw [if_pos h4] at hr
   refine Ev.step ?_
   simp only [cohousingref05_Least.l1, e1, e2, h4, if_true]
   refine Ev.bnd (lineP_ev hp hp0 hp1 (x := (lo + hi) / 2) (by omega) (by omega)) (Ev.bnd (lineP_ev hq hq0 hq1 (x := (lo + hi) / 2) (by omega) (by omega)) ?_)
   simp only [hc1, Option.bind_some]
   have e3 : (decide (c ≤ 0) == first) = refP (lineL p) (lineL q) first ((lo + hi) / 2) := by
    unfold refP
    rw [decide_eq_decide.2 hc3]
   rw [e3]
   by_cases h5 : refP (lineL p) (lineL q) first ((lo + hi) / 2) = true
   ·rw [if_pos h5] at hr
    simp only [h5, if_true]
    exact ih _ _ (by omega) (by omega) h2 (by omega) hr
   ·rw [if_neg h5] at hr
    simp only [h5, if_false]
    exact ih _ _ h0 (by omega) (by omega) (by omega) hr
  ·unfold rsearch at hr
   rw [if_neg h4] at hr
   exact stop lo hi h0 h1 h2 h4 hr
theorem rs_chg {s : ST} (h : SOk s) : Chg s (rsearch (refP s.f s.g (!overS s)) (s.u - s.x).toNat s.x s.u) := by
 have h0 := h.x0
 have h2 := h.u0
 have ov := over_iff h
 have ep : ∀ a : Int, (refP s.f s.g (!overS s) a = true ↔ (lt s.g s.f a ↔ lt s.g s.f s.x)) := fun a => by
  unfold refP
  rw [ov]
  by_cases c1 : lt s.g s.f a <;> by_cases c2 : lt s.g s.f s.x <;> simp [c1, c2]
 have ef : ∀ a : Int, (refP s.f s.g (!overS s) a = false ↔ ¬ (lt s.g s.f a ↔ lt s.g s.f s.x)) := fun a => by
  rw [← ep a]
  cases refP s.f s.g (!overS s) a <;> simp
 obtain ⟨g1, g2, g3, g4⟩ := rsearch_spec (refP s.f s.g (!overS s)) s.x s.u (fun a b ha hab hb hp => by
  rw [ef] at hp ⊢
  exact lt_mono ha hab hp) (s.u - s.x).toNat s.x s.u (Int.le_refl _) h2 (Int.le_refl _) (by omega) ((ep _).2 Iff.rfl) (fun h => by omega)
 exact ⟨g1, g2, fun y hy1 hy2 => (ep y).1 (g3 y hy1 hy2), fun hlt => (ef _).1 (g4 hlt)⟩
theorem end_x {f g : List PC} (hf : FOk f) (hg : FOk g) {M : Nat} (hM : StOk f g M) : (stp f g M).2.2 = 100001 := by
 have := hM.last
 have := (inv_at hf hg M).hi
 omega
theorem rleast_l0 {f g : List PC} (hf : FOk f) (hg : FOk g) {M : Nat} (hM : StOk f g M) (hM1 : M ≤ 1000) (h1 : 1 ≤ M) : ∀ (d j : Nat), j + d = M → Ev (fun k => cohousingref05_Least.l0 k f g (pcs (leastEs f g j)) (stX f g M) (j : Int)) (resS (outM none (leastEs f g M))) := by
 intro d
 induction d with
 | zero =>
  intro j hj
  have hl : ¬ (j : Int) < ((stX f g M).length : Int) := by rw [stX_len]; omega
  have ej : j = M := by omega
  have hlen := leastEs_len f g M
  refine Ev.step ?_
  simp only [cohousingref05_Least.l0, hl, if_false]
  rw [ej]
  exact Ev.bnd (result_ev _ (leastEs_ok hf hg hM) (by omega) (by omega)) (Ev.pure _)
 | succ d ih =>
  intro j hj
  have hjM : j < M := by omega
  have hl : (j : Int) < ((stX f g M).length : Int) := by rw [stX_len]; omega
  have h2 : 0 ≤ (j : Int) := by omega
  have ew : wrap64 ((j : Int) + 1) = ((j + 1 : Nat) : Int) := by unfold wrap64; omega
  have hs := stE_ok hf hg hM hjM
  have hi := inv_at hf hg j
  have ha := hf.pok hi.a.1
  have hb := hg.pok hi.b.1
  have hx0 : 0 ≤ (stp f g j).2.2 := hs.x0
  have hx1 : (stp f g j).2.2 ≤ 100001 := by have h : (stp f g j).2.2 ≤ 100000 := hs.x1; omega
  have hu0 : (stp f g j).2.2 < (stp f g (j + 1)).2.2 := hs.u0
  have hu1 : (stp f g (j + 1)).2.2 ≤ 100001 := hs.u1
  have hlen := leastEs_len f g j
  have hpl := pcs_len (leastEs f g j)
  have h7 : (pcs (leastEs f g j)).length < 3518437208883 := by omega
  obtain ⟨c, hc1, hc2, hc3⟩ := cmp_ev hs.lf hs.lg hx0 hx1
  have hfirst : decide (c ≤ 0) = !overS (stE f g j) := by
   rw [over_iff hs, Bool.eq_iff_iff]
   simp only [Bool.not_eq_true', decide_eq_true_eq, decide_eq_false_iff_not]
   exact hc3
  have key : Ev (fun k => cohousingref05_Least.j2 k f g (pcs (leastEs f g j)) (stX f g M) (j : Int) (stp f g (j + 1)).2.2) (resS (outM none (leastEs f g M))) := by
   refine Ev.step ?_
   simp only [cohousingref05_Least.j2, hl, h2, if_true, rd_stX hjM]
   refine Ev.bnd (piece_ev hf hi.a) (Ev.bnd (piece_ev hg hi.b) (Ev.bnd (lineP_ev ha (hf.in_ hi.a.1).1 (hf.in_ hi.a.1).2 hx0 hx1) (Ev.bnd (lineP_ev hb (hg.in_ hi.b.1).1 (hg.in_ hi.b.1).2 hx0 hx1) ?_)))
   have hc1' : cohousingref05_Compare.f (red (num (lineL (pA f (stp f g j).1)) (stp f g j).2.2) (lineL (pA f (stp f g j).1)).d).1 (red (num (lineL (pA f (stp f g j).1)) (stp f g j).2.2) (lineL (pA f (stp f g j).1)).d).2 (red (num (lineL (pA g (stp f g j).2.1)) (stp f g j).2.2) (lineL (pA g (stp f g j).2.1)).d).1 (red (num (lineL (pA g (stp f g j).2.1)) (stp f g j).2.2) (lineL (pA g (stp f g j).2.1)).d).2 = some c := hc1
   simp only [hc1', Option.bind_some, hfirst]
   refine Ev.bnd (taken_ev ha hb (hf.in_ hi.a.1).1 (hf.in_ hi.a.1).2 (hg.in_ hi.b.1).1 (hg.in_ hi.b.1).2 (!overS (stE f g j)) hx0 hx1) ?_
   simp only [h7, if_true]
   have hih := ih (j + 1) (by omega)
   rw [leastEs_succ] at hih
   have eone : (if (!overS (stE f g j)) = true then lineL (pA f (stp f g j).1) else lineL (pA g (stp f g j).2.1)) = oneS (stE f g j) := by
    unfold oneS
    cases overS (stE f g j) <;> rfl
   have etwo : (if (!overS (stE f g j)) = true then lineL (pA g (stp f g j).2.1) else lineL (pA f (stp f g j).1)) = twoS (stE f g j) := by
    unfold twoS
    cases overS (stE f g j) <;> rfl
   rw [eone]
   refine rleast_l1 ha hb (hf.in_ hi.a.1).1 (hf.in_ hi.a.1).2 (hg.in_ hi.b.1).1 (hg.in_ hi.b.1).2 _ (by rw [List.length_append, List.length_singleton]; omega) _ j (by omega) _ _ _ ((stp f g (j + 1)).2.2 - (stp f g j).2.2).toNat _ _ hx0 hu0 hu1 (by omega) ?_
   have hr : rsearch (refP (lineL (pA f (stp f g j).1)) (lineL (pA g (stp f g j).2.1)) (!overS (stE f g j))) ((stp f g (j + 1)).2.2 - (stp f g j).2.2).toNat (stp f g j).2.2 (stp f g (j + 1)).2.2 = (stE f g j).x + kS (stE f g j) := chg_one (rs_chg hs) (kS_chg hs)
   rw [hr, etwo]
   have e : pcs (leastEs f g j ++ evL (stE f g j)) = pcs (leastEs f g j) ++ [pc (oneS (stE f g j)) (stp f g j).2.2] ++ (if (stE f g j).x + kS (stE f g j) < (stp f g (j + 1)).2.2 then [pc (twoS (stE f g j)) ((stE f g j).x + kS (stE f g j))] else []) := by
    unfold pcs evL
    rw [List.map_append, List.map_cons, List.append_assoc, List.singleton_append]
    congr 2
    show List.map _ (if (stE f g j).x + kS (stE f g j) < (stp f g (j + 1)).2.2 then _ else _) = _
    split <;> rfl
   rw [e] at hih
   exact hih
  refine Ev.step ?_
  simp only [cohousingref05_Least.l0, hl, if_true, ew]
  by_cases hlast : j + 1 < M
  ·have h3 : ((j + 1 : Nat) : Int) < ((stX f g M).length : Int) := by rw [stX_len]; omega
   have h4 : 0 ≤ ((j + 1 : Nat) : Int) := by omega
   simp only [h3, h4, if_true, rd_stX hlast]
   exact key
  ·have h3 : ¬ ((j + 1 : Nat) : Int) < ((stX f g M).length : Int) := by rw [stX_len]; omega
   simp only [h3, if_false]
   have ex := end_x hf hg hM
   rw [show M = j + 1 by omega] at ex
   rw [ex] at key
   exact key
theorem rleast_ev {f g : List PC} (hf : FOk f) (hg : FOk g) (hIf : ∀ p ∈ f, IBP p) (hIg : ∀ p ∈ g, IBP p) {M : Nat} (hM : StOk f g M) (hM1 : M ≤ 1000) (h1 : 1 ≤ M) : Ev (fun k => cohousingref05_Least.f k f g) (resS (outM none (leastEs f g M))) := by
 unfold cohousingref05_Least.f
 refine Ev.bnd (rvalid_ev f hIf) (Ev.bnd (rvalid_ev g hIg) ?_)
 simp only [decide_eq_true hf, decide_eq_true hg, if_true, Bool.not_true]
 refine Ev.step ?_
 simp only [cohousingref05_Least.j0, Bool.false_eq_true, if_false]
 exact Ev.bnd (starts_ev hf hg hM hM1 h1) (rleast_l0 hf hg hM hM1 h1 M 0 (by omega))
theorem rleast_bad {f g : List PC} (h : ¬ (FOk f ∧ FOk g)) (hIf : ∀ p ∈ f, IBP p) (hIg : ∀ p ∈ g, IBP p) : Ev (fun k => cohousingref05_Least.f k f g) ([], 1) := by
 have hj : Ev (fun k => cohousingref05_Least.j0 k f g true) ([], 1) := by
  refine Ev.step ?_
  simp only [cohousingref05_Least.j0, if_true]
  exact Ev.pure _
 unfold cohousingref05_Least.f
 refine Ev.bnd (rvalid_ev f hIf) (Ev.bnd (rvalid_ev g hIg) ?_)
 by_cases hf : FOk f
 ·have hg : ¬ FOk g := fun hg => h ⟨hf, hg⟩
  simp only [decide_eq_true hf, decide_eq_false hg, if_true, Bool.not_false]
  exact hj
 ·simp only [decide_eq_false hf, Bool.false_eq_true, if_false]
  exact hj
end Go.Proofs.Ytmhimmodigeeiaa.P
end
section
namespace Go.Proofs.Ytmhimmodigeeiaa.P
open Go.RowKit Go.Proofs.YtmhimmodigeeiaaW.PrintWords Go.Proofs.YtmhimmodigeeiaaW.PrintLast Go.Proofs.YtmhimmodigeeiaaW.PrintMore
set_option linter.unusedVariables false
set_option linter.unusedSimpArgs false
open Classical
theorem at_one {f : List PC} (hf : FOk f) {x : Int} {i i' : Nat} (h : atI f x i) (h' : atI f x i') : i = i' := by
 have h1 := (at_le hf h h'.1).1 h'.2.1
 have h2 := (at_le hf h' h.1).1 h.2.1
 omega
def LT (f g : List PC) (y : Int) : Prop := ∃ i k, atI f y i ∧ atI g y k ∧ lt (lineL (pA f i)) (lineL (pA g k)) y
theorem LT_iff {f g : List PC} (hf : FOk f) (hg : FOk g) {y : Int} {i k : Nat} (h : atI f y i) (h' : atI g y k) : LT f g y ↔ lt (lineL (pA f i)) (lineL (pA g k)) y := by
 constructor
 ·rintro ⟨i', k', a, b, c⟩
  rw [at_one hf h a, at_one hg h' b]
  exact c
 ·intro c
  exact ⟨i, k, h, h', c⟩
theorem at_in {f g : List PC} (hf : FOk f) (hg : FOk g) {j : Nat} {y : Int} (h0 : (stp f g j).2.2 ≤ y) (h1 : y < (stp f g (j + 1)).2.2) : atI f y (stp f g j).1 ∧ atI g y (stp f g j).2.1 := by
 have hi := inv_at hf hg j
 obtain ⟨n1, n2, n3, n4, n5, n6⟩ := nxt_in hf hg hi
 rw [stp_x] at h1
 exact ⟨⟨hi.a.1, by have := hi.a.2.1; omega, fun h => by have := n4 h; omega⟩, ⟨hi.b.1, by have := hi.b.2.1; omega, fun h => by have := n5 h; omega⟩⟩
def IsB (f g : List PC) (lo hi : Int) (r : Int × Bool × Int) : Prop := (∃ v, r = (v, true, 0) ∧ lo ≤ v ∧ v ≤ hi ∧ LT f g v ∧ ∀ y, lo ≤ y → y < v → ¬ LT f g y) ∨ (r = (0, false, 0) ∧ ∀ y, lo ≤ y → y ≤ hi → ¬ LT f g y)
theorem isB_one {f g : List PC} {lo hi : Int} {r r' : Int × Bool × Int} (h : IsB f g lo hi r) (h' : IsB f g lo hi r') : r = r' := by
 rcases h with ⟨v, rfl, a1, a2, a3, a4⟩ | ⟨rfl, a⟩
 ·rcases h' with ⟨v', rfl, b1, b2, b3, b4⟩ | ⟨rfl, b⟩
  ·rcases Int.lt_trichotomy v v' with c | c | c
   ·exact absurd a3 (b4 v a1 c)
   ·rw [c]
   ·exact absurd b3 (a4 v' b1 c)
  ·exact absurd a3 (b v a1 a2)
 ·rcases h' with ⟨v', rfl, b1, b2, b3, b4⟩ | ⟨rfl, b⟩
  ·exact absurd b3 (a v' b1 b2)
  ·rfl
theorem SOk.less2 {s : ST} (h : SOk s) {y : Int} (h0 : s.x ≤ y) (h1 : y < s.u) : lessB s.f s.g y = decide (lt s.f s.g y) := (lessB_eq h.lf h.lg (by have := h.x0; omega) (by have := h.u1; omega)).trans (decide_eq_decide.2 Iff.rfl)
theorem bFrom_in (lo : Int) (s : ST) : s.x ≤ bFrom lo s ∧ lo ≤ bFrom lo s ∧ (bFrom lo s = s.x ∨ bFrom lo s = lo) := by unfold bFrom; split <;> omega
theorem bUntil_in (hi : Int) (s : ST) : bUntil hi s ≤ s.u ∧ bUntil hi s ≤ hi + 1 ∧ (bUntil hi s = s.u ∨ bUntil hi s = hi + 1) := by unfold bUntil; split <;> omega
theorem belowO_none {lo hi : Int} {s : ST} (h : SOk s) (hO : belowO lo hi s = none) : ∀ y, s.x ≤ y → y < s.u → lo ≤ y → y ≤ hi → ¬ lt s.f s.g y := by
 obtain ⟨a1, a2, a3⟩ := bFrom_in lo s
 obtain ⟨b1, b2, b3⟩ := bUntil_in hi s
 have c0 := h.x0
 have c1 := h.u1
 unfold belowO bK at hO
 generalize bFrom lo s = fr at *
 generalize bUntil hi s = un at *
 intro y hy1 hy2 hy3 hy4 hlt
 have hyf : fr ≤ y := by omega
 have hyu : y < un := by omega
 rw [if_pos (by omega), h.less2 (by omega) (by omega)] at hO
 by_cases hfr : lt s.f s.g fr
 ·rw [if_pos (decide_eq_true hfr)] at hO; cases hO
 ·rw [if_neg (by rw [decide_eq_false hfr]; decide)] at hO
  have ep : ∀ a : Int, 0 ≤ a → a < un - fr → (belowP s fr a = true ↔ ¬ (lt s.f s.g (fr + a) ↔ lt s.f s.g fr)) := fun a ha hb => by
   unfold belowP
   rw [wrap_id (by omega) (by omega), h.less2 (by omega) (by omega)]
   by_cases c1 : lt s.f s.g (fr + a) <;> simp [c1, hfr]
  have hs := bsearch_spec (belowP s fr) 0 (un - fr) (fun a b ha hab hb hp => by
   rw [ep a ha (by omega)] at hp
   rw [ep b (by omega) hb]
   exact lt_mono (by omega) (by omega) hp) (un - fr).toNat 0 (un - fr) (Int.le_refl _) (by omega) (Int.le_refl _) (by omega) (fun a h1 h2 => by omega) (fun h => by omega)
  generalize bsearch (belowP s fr) (un - fr).toNat 0 (un - fr) = r at *
  obtain ⟨g1, g2, g3, g4⟩ := hs
  by_cases hr : fr + r < un
  ·rw [if_pos hr] at hO; cases hO
  ·have := g3 (y - fr) (by omega) (by omega)
   have h2 := (ep (y - fr) (by omega) (by omega)).2 (by rw [show fr + (y - fr) = y by omega]; exact fun h3 => hfr (h3.1 hlt))
   rw [this] at h2
   cases h2
theorem belowO_some {lo hi v : Int} {s : ST} (h : SOk s) (hO : belowO lo hi s = some v) : (s.x ≤ v ∧ v < s.u ∧ lo ≤ v ∧ v ≤ hi) ∧ lt s.f s.g v ∧ ∀ y, s.x ≤ y → lo ≤ y → y < v → ¬ lt s.f s.g y := by
 obtain ⟨a1, a2, a3⟩ := bFrom_in lo s
 obtain ⟨b1, b2, b3⟩ := bUntil_in hi s
 have c0 := h.x0
 have c1 := h.u1
 unfold belowO bK at hO
 generalize bFrom lo s = fr at *
 generalize bUntil hi s = un at *
 by_cases hfu : fr < un
 case neg => rw [if_neg hfu] at hO; cases hO
 rw [if_pos hfu, h.less2 (by omega) (by omega)] at hO
 by_cases hfr : lt s.f s.g fr
 ·rw [if_pos (decide_eq_true hfr)] at hO
  obtain rfl := Option.some.inj hO
  exact ⟨by omega, hfr, fun y h1 h2 h3 => by omega⟩
 ·rw [if_neg (by rw [decide_eq_false hfr]; decide)] at hO
  have ep : ∀ a : Int, 0 ≤ a → a < un - fr → (belowP s fr a = true ↔ ¬ (lt s.f s.g (fr + a) ↔ lt s.f s.g fr)) := fun a ha hb => by
   unfold belowP
   rw [wrap_id (by omega) (by omega), h.less2 (by omega) (by omega)]
   by_cases c1 : lt s.f s.g (fr + a) <;> simp [c1, hfr]
  have hs := bsearch_spec (belowP s fr) 0 (un - fr) (fun a b ha hab hb hp => by
   rw [ep a ha (by omega)] at hp
   rw [ep b (by omega) hb]
   exact lt_mono (by omega) (by omega) hp) (un - fr).toNat 0 (un - fr) (Int.le_refl _) (by omega) (Int.le_refl _) (by omega) (fun a h1 h2 => by omega) (fun h => by omega)
  generalize bsearch (belowP s fr) (un - fr).toNat 0 (un - fr) = r at *
  obtain ⟨g1, g2, g3, g4⟩ := hs
  by_cases hr : fr + r < un
  case neg => rw [if_neg hr] at hO; cases hO
  rw [if_pos hr] at hO
  obtain rfl := Option.some.inj hO
  refine ⟨by omega, ?_, fun y h1 h2 h3 hlt => ?_⟩
  ·have := (ep r g1 (by omega)).1 (g4 (by omega))
   by_cases hc : lt s.f s.g (fr + r)
   ·exact hc
   ·exact absurd ⟨fun h => absurd h hc, fun h => absurd h hfr⟩ this
  ·have h4 := g3 (y - fr) (by omega) (by omega)
   have h5 := (ep (y - fr) (by omega) (by omega)).2 (by rw [show fr + (y - fr) = y by omega]; exact fun h3 => hfr (h3.1 hlt))
   rw [h4] at h5
   cases h5
theorem belowR_isB {f g : List PC} (hf : FOk f) (hg : FOk g) {M : Nat} (hM : StOk f g M) {lo hi : Int} (h0 : 0 ≤ lo) (h1 : lo ≤ hi) (h2 : hi ≤ 100000) : ∀ (d j : Nat), j + d = M → (∀ y, lo ≤ y → y ≤ hi → y < (stp f g j).2.2 → ¬ LT f g y) → IsB f g lo hi (belowR lo hi ((stL f g M).drop j)) := by
 intro d
 induction d with
 | zero =>
  intro j hj hb
  rw [List.drop_of_length_le (by rw [stL_len]; omega)]
  refine .inr ⟨rfl, fun y hy1 hy2 => hb y hy1 hy2 ?_⟩
  have := end_x hf hg hM
  rw [show j = M by omega, this]
  omega
 | succ d ih =>
  intro j hj hb
  have hjM : j < M := by omega
  have hs := stE_ok hf hg hM hjM
  have e : (stL f g M).drop j = stE f g j :: (stL f g M).drop (j + 1) := by
   rw [List.drop_eq_getElem_cons (by rw [stL_len]; exact hjM)]
   congr 1
   simp [stL]
  have hin : ∀ y, (stp f g j).2.2 ≤ y → y < (stp f g (j + 1)).2.2 → (LT f g y ↔ lt (stE f g j).f (stE f g j).g y) := fun y hy1 hy2 => by
   obtain ⟨a, b⟩ := at_in hf hg hy1 hy2
   exact LT_iff hf hg a b
  rw [e]
  unfold belowR
  rw [List.findSome?_cons]
  cases hO : belowO lo hi (stE f g j) with
  | some v =>
   obtain ⟨⟨a1, a2, a3, a4⟩, a5, a6⟩ := belowO_some hs hO
   have a1' : (stp f g j).2.2 ≤ v := a1
   have a2' : v < (stp f g (j + 1)).2.2 := a2
   refine .inl ⟨v, rfl, a3, a4, (hin v a1' a2').2 a5, fun y hy1 hy2 => ?_⟩
   by_cases hy3 : y < (stp f g j).2.2
   ·exact hb y hy1 (by omega) hy3
   ·exact fun h => a6 y (show (stp f g j).2.2 ≤ y by omega) hy1 hy2 ((hin y (by omega) (by omega)).1 h)
  | none =>
   have a := belowO_none hs hO
   exact ih (j + 1) (by omega) (fun y hy1 hy4 hy2 => by
    by_cases hy3 : y < (stp f g j).2.2
    ·exact hb y hy1 hy4 hy3
    ·exact fun h => a y (show (stp f g j).2.2 ≤ y by omega) hy2 hy1 hy4 ((hin y (by omega) hy2).1 h))
theorem below_eq {f g : List PC} (hf : FOk f) (hg : FOk g) {lo hi : Int} (h0 : 0 ≤ lo) (h1 : lo ≤ hi) (h2 : hi ≤ 100000) : ∃ r, piecewise_Below.f f g lo hi = some r ∧ IsB f g lo hi r := by
 obtain ⟨M, hM, hS, hM1, hM0⟩ := stM_ex hf hg
 have hok : ∀ s ∈ stL f g M, SOk s := fun s hs => stL_ok hf hg hS hs
 have hkV : 100 ≤ kV := by unfold kV; omega
 refine ⟨belowR lo hi (stL f g M), ?_, ?_⟩
 ·unfold piecewise_Below.f
  rw [valid_eq f hkV, valid_eq g hkV, decide_eq_true hf, decide_eq_true hg, hM]
  simp only [Option.bind_some, if_true]
  rw [if_pos ⟨trivial, h0, h1, h2⟩, if_pos (List.all_eq_true.2 (fun s hs => (hok s hs).rng))]
 ·have := belowR_isB hf hg hS h0 h1 h2 M 0 (by omega) (fun y hy1 _ hy2 => by
   have : y < 0 := hy2
   omega)
  rwa [List.drop_zero] at this
theorem below_bad_eq {f g : List PC} {lo hi : Int} (h : ¬ ((FOk f ∧ FOk g) ∧ 0 ≤ lo ∧ lo ≤ hi ∧ hi ≤ 100000)) : piecewise_Below.f f g lo hi = some (0, false, 1) := by
 have hkV : 100 ≤ kV := by unfold kV; omega
 unfold piecewise_Below.f
 rw [valid_eq f hkV, valid_eq g hkV]
 simp only [Option.bind_some, decide_eq_true_eq]
 by_cases hf : FOk f
 ·rw [if_pos hf, if_neg (fun hc => h ⟨⟨hf, hc.1⟩, hc.2⟩)]
 ·rw [if_neg hf]
theorem value_ev {f : List PC} (hf : FOk f) {x : Int} {i : Nat} (h : atI f x i) (h0 : 0 ≤ x) (h1 : x ≤ 100001) : Ev (fun k => cohousingref05_Value.f k f x) (red (num (lineL (pA f i)) x) (lineL (pA f i)).d) := by
 unfold cohousingref05_Value.f
 exact Ev.bnd (piece_ev hf h) (Ev.bnd (lineP_ev (hf.pok h.1) (hf.in_ h.1).1 (hf.in_ h.1).2 h0 h1) (Ev.pure _))
theorem rbelow_l1 {f g : List PC} (hf : FOk f) (hg : FOk g) {lo hi : Int} {j : Nat} (r : Int × Bool × Int) (hr : IsB f g lo hi r) : ∀ (n : Nat) (a b : Int), (stp f g j).2.2 ≤ a → b < (stp f g (j + 1)).2.2 → lo ≤ a → b ≤ hi → a < b → b - a ≤ n + 1 → (∀ y, lo ≤ y → y ≤ a → ¬ LT f g y) → LT f g b → Ev (fun k => cohousingref05_Below.l1 k f g a b) r := by
 have hi1 := (inv_at hf hg (j + 1)).hi
 have hlo := (inv_at hf hg j).lo
 have stop : ∀ (a b : Int), (stp f g j).2.2 ≤ a → b < (stp f g (j + 1)).2.2 → lo ≤ a → b ≤ hi → a < b → ¬ b - a > 1 → (∀ y, lo ≤ y → y ≤ a → ¬ LT f g y) → LT f g b → Ev (fun k => cohousingref05_Below.l1 k f g a b) r := by
  intro a b h1 h2 h3 h4 h5 h6 h7 h8
  have e1 : wrap64 (b - a) = b - a := wrap_id (by omega) (by omega)
  refine Ev.step ?_
  simp only [cohousingref05_Below.l1, e1, h6, if_false]
  rw [isB_one hr (.inl ⟨b, rfl, by omega, h4, h8, fun y hy1 hy2 => h7 y hy1 (by omega)⟩)]
  exact Ev.pure _
 intro n
 induction n with
 | zero =>
  intro a b h1 h2 h3 h4 h5 h6 h7 h8
  exact stop a b h1 h2 h3 h4 h5 (by omega) h7 h8
 | succ n ih =>
  intro a b h1 h2 h3 h4 h5 h6 h7 h8
  by_cases hc : b - a > 1
  case neg => exact stop a b h1 h2 h3 h4 h5 hc h7 h8
  have e1 : wrap64 (b - a) = b - a := wrap_id (by omega) (by omega)
  have e2 : wrap64 (Int.tdiv (wrap64 (a + b)) 2) = (a + b) / 2 := by
   rw [wrap_id (n := a + b) (by omega) (by omega), Int.tdiv_eq_ediv_of_nonneg (by omega), wrap_id (by omega) (by omega)]
  obtain ⟨q1, q2⟩ := at_in hf hg (j := j) (y := (a + b) / 2) (by omega) (by omega)
  obtain ⟨w1, w2⟩ := at_in hf hg (j := j) (y := a) h1 (by omega)
  obtain ⟨c, hc1, hc2, hc3⟩ := cmp_ev (hf.lb q1.1) (hg.lb q2.1) (x := (a + b) / 2) (by omega) (by omega)
  refine Ev.step ?_
  simp only [cohousingref05_Below.l1, e1, e2, hc, if_true]
  refine Ev.bnd (value_ev hf q1 (by omega) (by omega)) (Ev.bnd (value_ev hg q2 (by omega) (by omega)) ?_)
  simp only [hc1, Option.bind_some]
  have hL := LT_iff hf hg q1 q2
  have hA := LT_iff hf hg w1 w2
  have hna := h7 a h3 (Int.le_refl _)
  by_cases h9 : c < 0
  ·simp only [h9, if_true]
   exact ih a _ h1 (by omega) h3 (by omega) (by omega) (by omega) h7 (hL.2 (hc2.1 h9))
  ·simp only [h9, if_false]
   refine ih _ b (by omega) h2 (by omega) h4 (by omega) (by omega) (fun y hy1 hy2 hy3 => ?_) h8
   by_cases hya : y ≤ a
   ·exact h7 y hy1 hya hy3
   ·obtain ⟨v1, v2⟩ := at_in hf hg (j := j) (y := y) (by omega) (by omega)
    have hY := (LT_iff hf hg v1 v2).1 hy3
    have hm := lt_mono (l := lineL (pA f (stp f g j).1)) (m := lineL (pA g (stp f g j).2.1)) (x := a) (y := y) (z := (a + b) / 2) (by omega) hy2 (fun h => hna (hA.2 (h.1 hY)))
    by_cases h10 : lt (lineL (pA f (stp f g j).1)) (lineL (pA g (stp f g j).2.1)) ((a + b) / 2)
    ·exact h9 (hc2.2 h10)
    ·exact hm ⟨fun h => absurd h h10, fun h => absurd (hA.2 h) hna⟩
theorem rbelow_j2 {f g : List PC} (hf : FOk f) (hg : FOk g) {M : Nat} (xs : List Int) {lo hi : Int} (h0 : 0 ≤ lo) (h1 : lo ≤ hi) (h2 : hi ≤ 100000) {j : Nat} (hj : j ≤ 100000) (r : Int × Bool × Int) (hr : IsB f g lo hi r) (hb : ∀ y, lo ≤ y → y ≤ hi → y < (stp f g j).2.2 → ¬ LT f g y)
  (a b : Int) (ha : a = mx (stp f g j).2.2 lo) (hb' : b = mn hi ((stp f g (j + 1)).2.2 - 1)) (hup : (stp f g j).2.2 < (stp f g (j + 1)).2.2) (hn : (∀ y, lo ≤ y → y ≤ hi → y < (stp f g (j + 1)).2.2 → ¬ LT f g y) → Ev (fun k => cohousingref05_Below.l0 k f g xs ((j + 1 : Nat) : Int) lo hi) r) :
  Ev (fun k => cohousingref05_Below.j2 k f g xs (j : Int) a b lo hi) r := by
 have hi1 := (inv_at hf hg (j + 1)).hi
 have hlo := (inv_at hf hg j).lo
 have ew : wrap64 ((j : Int) + 1) = ((j + 1 : Nat) : Int) := by unfold wrap64; omega
 have pa : (stp f g j).2.2 ≤ a ∧ lo ≤ a ∧ (a = (stp f g j).2.2 ∨ a = lo) := by rw [ha]; unfold mx; split <;> omega
 have pb : b ≤ hi ∧ b ≤ (stp f g (j + 1)).2.2 - 1 ∧ (b = hi ∨ b = (stp f g (j + 1)).2.2 - 1) := by rw [hb']; unfold mn; split <;> omega
 clear ha hb'
 refine Ev.step ?_
 by_cases hab : a > b
 ·simp only [cohousingref05_Below.j2, hab, if_true, ew]
  exact hn (fun y hy1 hy2 hy3 => by
   by_cases hy4 : y < (stp f g j).2.2
   ·exact hb y hy1 hy2 hy4
   ·omega)
 obtain ⟨w1, w2⟩ := at_in hf hg (j := j) (y := a) pa.1 (by omega)
 obtain ⟨v1, v2⟩ := at_in hf hg (j := j) (y := b) (by omega) (by omega)
 obtain ⟨c, hc1, hc2, hc3⟩ := cmp_ev (hf.lb w1.1) (hg.lb w2.1) (x := a) (by omega) (by omega)
 obtain ⟨c', hd1, hd2, hd3⟩ := cmp_ev (hf.lb v1.1) (hg.lb v2.1) (x := b) (by omega) (by omega)
 have hA := LT_iff hf hg w1 w2
 have hB := LT_iff hf hg v1 v2
 have before : ∀ y, lo ≤ y → y < a → ¬ LT f g y := fun y hy1 hy2 => hb y hy1 (by omega) (by omega)
 simp only [cohousingref05_Below.j2, hab, if_false]
 refine Ev.bnd (value_ev hf w1 (by omega) (by omega)) (Ev.bnd (value_ev hg w2 (by omega) (by omega)) ?_)
 simp only [hc1, Option.bind_some]
 by_cases hc : c < 0
 ·simp only [hc, if_true]
  rw [isB_one hr (.inl ⟨a, rfl, pa.2.1, by omega, hA.2 (hc2.1 hc), before⟩)]
  exact Ev.pure _
 have hna : ¬ LT f g a := fun h => hc (hc2.2 (hA.1 h))
 simp only [hc, if_false]
 refine Ev.bnd (value_ev hf v1 (by omega) (by omega)) (Ev.bnd (value_ev hg v2 (by omega) (by omega)) ?_)
 simp only [hd1, Option.bind_some]
 by_cases hd : c' ≥ 0
 ·simp only [hd, if_true, ew]
  have hnb : ¬ LT f g b := fun h => by have := hd2.2 (hB.1 h); omega
  refine hn (fun y hy1 hy2 hy3 hy4 => ?_)
  by_cases hya : y < a
  ·exact before y hy1 hya hy4
  ·obtain ⟨u1, u2⟩ := at_in hf hg (j := j) (y := y) (by omega) hy3
   have hY := (LT_iff hf hg u1 u2).1 hy4
   have hm := lt_mono (l := lineL (pA f (stp f g j).1)) (m := lineL (pA g (stp f g j).2.1)) (x := a) (y := y) (z := b) (by omega) (by omega) (fun h => hna (hA.2 (h.1 hY)))
   exact hm ⟨fun h => absurd (hB.2 h) hnb, fun h => absurd (hA.2 h) hna⟩
 ·simp only [hd, if_false]
  have hLb : LT f g b := hB.2 (hd2.1 (by omega))
  have hlt : a < b := by
   rcases Int.lt_or_le a b with h | h
   ·exact h
   ·have : a = b := by omega
    rw [this] at hna
    exact absurd hLb hna
  exact rbelow_l1 hf hg r hr (b - a).toNat a b pa.1 (by omega) pa.2.1 (by omega) hlt (by omega) (fun y hy1 hy2 => by
   rcases Int.lt_or_le y a with h | h
   ·exact before y hy1 h
   ·rw [show y = a by omega]; exact hna) hLb
theorem rbelow_l0 {f g : List PC} (hf : FOk f) (hg : FOk g) {M : Nat} (hM : StOk f g M) (hM1 : M ≤ 1000) {lo hi : Int} (h0 : 0 ≤ lo) (h1 : lo ≤ hi) (h2 : hi ≤ 100000) (r : Int × Bool × Int) (hr : IsB f g lo hi r) : ∀ (d j : Nat), j + d = M → (∀ y, lo ≤ y → y ≤ hi → y < (stp f g j).2.2 → ¬ LT f g y) → Ev (fun k => cohousingref05_Below.l0 k f g (stX f g M) (j : Int) lo hi) r := by
 intro d
 induction d with
 | zero =>
  intro j hj hb
  have hl : ¬ (j : Int) < ((stX f g M).length : Int) := by rw [stX_len]; omega
  have := end_x hf hg hM
  refine Ev.step ?_
  simp only [cohousingref05_Below.l0, hl, if_false]
  rw [isB_one hr (.inr ⟨rfl, fun y hy1 hy2 => hb y hy1 hy2 (by rw [show j = M by omega]; omega)⟩)]
  exact Ev.pure _
 | succ d ih =>
  intro j hj hb
  have hjM : j < M := by omega
  have hl : (j : Int) < ((stX f g M).length : Int) := by rw [stX_len]; omega
  have h3 : 0 ≤ (j : Int) := by omega
  have ew : wrap64 ((j : Int) + 1) = ((j + 1 : Nat) : Int) := by unfold wrap64; omega
  have hup := (hM.up j hjM).2
  have hi1 := (inv_at hf hg (j + 1)).hi
  have hlo := (inv_at hf hg j).lo
  refine Ev.step ?_
  simp only [cohousingref05_Below.l0, hl, h3, if_true, ew]
  by_cases hlast : j + 1 < M
  ·have h4 : ((j + 1 : Nat) : Int) < ((stX f g M).length : Int) := by rw [stX_len]; omega
   have h5 : 0 ≤ ((j + 1 : Nat) : Int) := by omega
   have e1 : wrap64 ((stp f g (j + 1)).2.2 - 1) = (stp f g (j + 1)).2.2 - 1 := wrap_id (by omega) (by omega)
   simp only [h4, h5, if_true, rd_stX hlast, rd_stX hjM, e1]
   exact rbelow_j2 hf hg (M := M) _ h0 h1 h2 (by omega) r hr hb _ _ rfl rfl hup (ih (j + 1) (by omega))
  ·have h4 : ¬ ((j + 1 : Nat) : Int) < ((stX f g M).length : Int) := by rw [stX_len]; omega
   simp only [h4, if_false, rd_stX hjM]
   have ex := end_x hf hg hM
   rw [show M = j + 1 by omega] at ex
   refine rbelow_j2 hf hg (M := M) _ h0 h1 h2 (by omega) r hr hb _ _ rfl ?_ hup (ih (j + 1) (by omega))
   rw [ex]
   unfold mn
   split <;> omega
theorem rbelow_ev {f g : List PC} (hf : FOk f) (hg : FOk g) (hIf : ∀ p ∈ f, IBP p) (hIg : ∀ p ∈ g, IBP p) {lo hi : Int} (h0 : 0 ≤ lo) (h1 : lo ≤ hi) (h2 : hi ≤ 100000) (r : Int × Bool × Int) (hr : IsB f g lo hi r) : Ev (fun k => cohousingref05_Below.f k f g lo hi) r := by
 obtain ⟨M, hM, hS, hM1, hM0⟩ := stM_ex hf hg
 have c1 : ¬ lo < 0 := by omega
 have c2 : ¬ lo > hi := by omega
 have c3 : ¬ hi > 100000 := by omega
 unfold cohousingref05_Below.f
 refine Ev.bnd (rvalid_ev f hIf) (Ev.bnd (rvalid_ev g hIg) ?_)
 simp only [decide_eq_true hf, decide_eq_true hg, if_true, c1, c2, c3, if_false, decide_false]
 refine Ev.step ?_
 simp only [cohousingref05_Below.j0, Bool.false_eq_true, if_false]
 exact Ev.bnd (starts_ev hf hg hS hM1 hM0) (rbelow_l0 hf hg hS hM1 h0 h1 h2 r hr M 0 (by omega) (fun y hy1 _ hy2 => by
  have : y < 0 := hy2
  omega))
theorem rbelow_bad {f g : List PC} {lo hi : Int} (h : ¬ ((FOk f ∧ FOk g) ∧ 0 ≤ lo ∧ lo ≤ hi ∧ hi ≤ 100000)) (hIf : ∀ p ∈ f, IBP p) (hIg : ∀ p ∈ g, IBP p) : Ev (fun k => cohousingref05_Below.f k f g lo hi) (0, false, 1) := by
 have hj : Ev (fun k => cohousingref05_Below.j0 k f g true lo hi) (0, false, 1) := by
  refine Ev.step ?_
  simp only [cohousingref05_Below.j0, if_true]
  exact Ev.pure _
 unfold cohousingref05_Below.f
 refine Ev.bnd (rvalid_ev f hIf) (Ev.bnd (rvalid_ev g hIg) ?_)
 by_cases hf : FOk f
 case neg =>
  simp only [decide_eq_false hf, Bool.false_eq_true, if_false]
  exact hj
 by_cases hg : FOk g
 case neg =>
  simp only [decide_eq_true hf, decide_eq_false hg, Bool.false_eq_true, if_false, if_true]
  exact hj
 simp only [decide_eq_true hf, decide_eq_true hg, if_true]
 by_cases c1 : lo < 0
 ·simp only [c1, if_true]
  exact hj
 by_cases c2 : lo > hi
 ·simp only [c1, c2, if_true, if_false]
  exact hj
 have c3 : hi > 100000 := by
  rcases Int.lt_or_le 100000 hi with h3 | h3
  ·exact h3
  ·exact absurd ⟨⟨hf, hg⟩, by omega, by omega, h3⟩ h
 simp only [c1, c2, c3, if_false, decide_true]
 exact hj
end Go.Proofs.Ytmhimmodigeeiaa.P
end
