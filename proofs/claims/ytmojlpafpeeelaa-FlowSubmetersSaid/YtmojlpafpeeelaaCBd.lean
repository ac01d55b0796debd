/- Part 4 of the base that the seat's proofs share: words, walks and plain laws. -/
import Derived.ArgAppend
import Derived.Below
import Derived.BigQuiet
import Derived.ChangeOld
import Derived.ChangeSlices
import Derived.Deep.AppendLies
import Derived.Deep.CutBlock
import Derived.Deep.DeepCutAuto
import Derived.Deep.Draws
import Derived.Deep.LoopGhost
import Derived.Deep.OwnRows
import Derived.Deep.QuietTactic
import Derived.Deep.RegionHeld3
import Derived.Deep.Slices
import Derived.KernelRfl
import Derived.Laws.BitsLemmas
import Derived.Laws.BytesArg
import Derived.Laws.IdiomCopy
import Derived.Laws.MakeOwn
import Derived.Laws.OwnMore
import Derived.Laws.Rows
import Derived.Laws.Slices
import Derived.Laws.StructEq
import Derived.Lib.AppendStr
import Derived.Lib.ConvBytes
import Derived.LoopIn
import Derived.LoopNIn
import Derived.Maps.AppendAt
import Derived.Maps.Own
import Derived.OpenShut
import Derived.OrdersHeld
import Derived.OwnWalk
import Derived.OwnWalkIn
import Derived.ProofKit
import Derived.RangeFuncBound
import Derived.RangeFuncCalls
import Derived.RangeFuncLeaves
import Derived.RangeFuncNested
import Derived.RowKit
import Derived.RowKit3
import Derived.ShutString
import Derived.SizedLaws
import Derived.Tactics
import Derived.TacticsInMore
import Derived.Test.YtmojlpafpeeelaaProg
import Derived.WalkKit
import Derived.WideLaws
import Derived.Test.YtmojlpafpeeelaaCBc
set_option linter.unusedVariables false
set_option linter.unusedSimpArgs false
section
namespace Go.Proofs.Ytmojlpafpeeelaa.P
open Go.RowKit Go.Proofs.YtmojlpafpeeelaaW.PrintWords Go.Proofs.YtmojlpafpeeelaaW.PrintLast Go.Proofs.YtmojlpafpeeelaaW.PrintMore Go.Proofs.YtmojlpafpeeelaaH Go.Proofs.FlowTree
open Classical
def Ev {α : Type} (f : Nat → Option α) (r : α) : Prop := ∃ k0, ∀ k, k0 ≤ k → f k = some r
theorem Ev.step {α : Type} {f : Nat → Option α} {r : α} (h : Ev (fun k => f (k + 1)) r) : Ev f r := by
 obtain ⟨k0, h⟩ := h
 refine ⟨k0 + 1, fun k hk => ?_⟩
 obtain ⟨k, rfl⟩ : ∃ m, k = m + 1 := ⟨k - 1, by omega⟩
 exact h k (by omega)
theorem Ev.pure {α : Type} (r : α) : Ev (fun _ => some r) r := ⟨0, fun _ _ => rfl⟩
theorem Ev.bnd {α β : Type} {f : Nat → Option β} {g : β → Nat → Option α} {b : β} {r : α} (hf : Ev f b) (hg : Ev (g b) r) : Ev (fun k => (f k).bind fun t => g t k) r := by
 obtain ⟨k0, h⟩ := hf
 obtain ⟨k1, h1⟩ := hg
 refine ⟨max k0 k1, fun k hk => ?_⟩
 show (f k).bind _ = _
 rw [h k (by omega)]
 exact h1 k (by omega)
theorem Ev.congr {α : Type} {f g : Nat → Option α} {r : α} (h : ∀ k, f k = g k) (hg : Ev g r) : Ev f r := by
 obtain ⟨k0, h0⟩ := hg
 exact ⟨k0, fun k hk => (h k).trans (h0 k hk)⟩
theorem wrap_nat {n : Nat} (h : n ≤ 140737488355328) : wrap64 ((n : Int) + 1) = ((n + 1 : Nat) : Int) := by unfold wrap64; omega
abbrev RG := S39
theorem idP_take (l : List PI) (m j : Nat) (h : j < m) : idP (l.take m) j = idP l j := by
 simp only [idP, rd_T44, Int.toNat_natCast, List.getD_eq_getElem?_getD, List.getElem?_take, if_pos h]
theorem at_l0 (l : List PI) (a : Int) (hB : l.length ≤ 140737488355328) : ∀ (d i : Nat), i + d = l.length → ∃ v : Int, Ev (fun k => cohousingref28_At.l0 k l a (i : Int)) v ∧ (v < 0 ↔ ∀ j, i ≤ j → j < l.length → idP l j ≠ a) := by
 intro d
 induction d with
 | zero =>
  intro i hi
  have h1 : ¬ ((i : Int) < (l.length : Int)) := by omega
  refine ⟨-1, Ev.step ?_, ⟨fun _ j h2 h3 => by omega, fun _ => by omega⟩⟩
  simp only [cohousingref28_At.l0, h1, if_false]
  exact Ev.pure _
 | succ d ih =>
  intro i hi
  have h1 : ((i : Int) < (l.length : Int)) := by omega
  have h2 : (0 : Int) ≤ (i : Int) := by omega
  by_cases he : (rd_T44 l (i : Int)).f0 = a
  ·refine ⟨(i : Int), Ev.step ?_, ⟨fun h => by omega, fun h => absurd he (h i (Nat.le_refl _) (by omega))⟩⟩
   simp only [cohousingref28_At.l0, h1, h2, he, if_true]
   exact Ev.pure _
  ·obtain ⟨v, hv, hs⟩ := ih (i + 1) (by omega)
   refine ⟨v, Ev.step ?_, ?_⟩
   ·simp only [cohousingref28_At.l0, h1, h2, he, if_true, if_false, wrap_nat (show i ≤ 140737488355328 by omega)]
    exact hv
   ·rw [hs]
    constructor
    ·intro h j h3 h4
     by_cases e : j = i
     ·subst e; exact he
     ·exact h j (by omega) h4
    ·intro h j h3 h4
     exact h j (by omega) h4
theorem at_f (l : List PI) (a : Int) (hB : l.length ≤ 140737488355328) : ∃ v : Int, Ev (fun k => cohousingref28_At.f k l a) v ∧ (v < 0 ↔ ∀ j, j < l.length → idP l j ≠ a) := by
 obtain ⟨v, hv, hs⟩ := at_l0 l a hB l.length 0 (by omega)
 exact ⟨v, hv, hs.trans ⟨fun h j hj => h j (Nat.zero_le _) hj, fun h j _ hj => h j hj⟩⟩
theorem volume_dec (n : Int) : cohousingref28_Volume.f n = some (decide (0 ≤ n ∧ n ≤ 1000000000)) := by
 unfold cohousingref28_Volume.f
 (repeat' split) <;> simp_all <;> omega
theorem valid_j1 (l : List PI) (hB : l.length ≤ 140737488355328) (i : Nat) (hi : i < l.length) (b R : Bool) (hb : b = decide (¬ (1 ≤ idP l i ∧ (0 < i → idP l (i - 1) < idP l i) ∧ (0 ≤ loP l i ∧ loP l i ≤ 1000000000))))
  (hyes : okP l i → Ev (fun k => cohousingref28_Valid.l0 k l ((i + 1 : Nat) : Int)) R) (hno : ¬ okP l i → R = false) : Ev (fun k => cohousingref28_Valid.j1 k l (i : Int) b) R := by
 refine Ev.step ?_
 have h1 : ((i : Int) < (l.length : Int)) := by omega
 have h2 : (0 : Int) ≤ (i : Int) := by omega
 have h3 : ((i : Int) ≤ (l.length : Int)) := by omega
 cases b with
 | true =>
  have hbad := of_decide_eq_true hb.symm
  rw [hno (fun h => hbad ⟨h.1, h.2.1, h.2.2.1⟩)]
  simp only [cohousingref28_Valid.j1, if_true]
  exact Ev.pure _
 | false =>
  have hgood := Decidable.not_not.1 (of_decide_eq_false hb.symm)
  simp only [cohousingref28_Valid.j1, h1, h2, h3, if_true, Bool.false_eq_true, if_false, wrap_nat (show i ≤ 140737488355328 by omega), Int.toNat_natCast]
  by_cases ha : (rd_T44 l (i : Int)).f1 = 0
  ·simp only [ha, if_true]
   exact hyes ⟨hgood.1, hgood.2.1, hgood.2.2, fun h => absurd ha h⟩
  ·simp only [ha, if_false]
   have hlen : (l.take i).length = i := by rw [List.length_take]; omega
   obtain ⟨v, hv, hs⟩ := at_f (l.take i) (rd_T44 l (i : Int)).f1 (by omega)
   refine Ev.bnd hv ?_
   rw [hlen] at hs
   by_cases hv0 : v < 0
   ·simp only [hv0, if_true]
    have h4 := hs.1 hv0
    rw [hno (fun h => by
     obtain ⟨j, hj, e⟩ := h.2.2.2 ha
     exact h4 j hj ((idP_take l i j hj).trans e))]
    exact Ev.pure _
   ·simp only [hv0, if_false]
    refine hyes ⟨hgood.1, hgood.2.1, hgood.2.2, fun _ => ?_⟩
    by_cases hex : ∃ j, j < i ∧ idP l j = abP l i
    ·exact hex
    ·refine absurd (hs.2 (fun j hj e => hex ⟨j, hj, ?_⟩)) hv0
     rw [idP_take l i j hj] at e
     exact e
theorem valid_l0 (l : List PI) (hB : l.length ≤ 140737488355328) : ∀ (d i : Nat), i + d = l.length → Ev (fun k => cohousingref28_Valid.l0 k l (i : Int)) (decide (∀ j, i ≤ j → j < l.length → okP l j) && decide (l.length ≤ 200)) := by
 intro d
 induction d with
 | zero =>
  intro i hi
  have h1 : ¬ ((i : Int) < (l.length : Int)) := by omega
  refine Ev.step ?_
  simp only [cohousingref28_Valid.l0, h1, if_false]
  rw [decide_eq_true (show ∀ j, i ≤ j → j < l.length → okP l j from fun j h2 h3 => by omega), Bool.true_and]
  rw [show decide ((l.length : Int) ≤ 200) = decide (l.length ≤ 200) from decide_eq_decide.2 (by omega)]
  exact Ev.pure _
 | succ d ih =>
  intro i hi
  have h1 : ((i : Int) < (l.length : Int)) := by omega
  have h2 : (0 : Int) ≤ (i : Int) := by omega
  obtain ⟨R, hR⟩ : ∃ R, R = (decide (∀ j, i ≤ j → j < l.length → okP l j) && decide (l.length ≤ 200)) := ⟨_, rfl⟩
  rw [← hR]
  have hyes : okP l i → Ev (fun k => cohousingref28_Valid.l0 k l ((i + 1 : Nat) : Int)) R := fun ho => by
   have e : decide (∀ j, i ≤ j → j < l.length → okP l j) = decide (∀ j, i + 1 ≤ j → j < l.length → okP l j) := decide_eq_decide.2 ⟨fun h j h3 h4 => h j (by omega) h4, fun h j h3 h4 => by
    by_cases e : j = i
    ·subst e; exact ho
    ·exact h j (by omega) h4⟩
   rw [hR, e]
   exact ih (i + 1) (by omega)
  have hno : ¬ okP l i → R = false := fun hn => by
   rw [hR, decide_eq_false (fun h => hn (h i (Nat.le_refl _) (by omega))), Bool.false_and]
  refine Ev.step ?_
  simp only [cohousingref28_Valid.l0, h1, h2, if_true]
  by_cases c1 : (rd_T44 l (i : Int)).f0 < 1
  ·simp only [c1, if_true]
   exact valid_j1 l hB i (by omega) true R (by symm; apply decide_eq_true; intro h; have := h.1; simp only [idP] at this; omega) hyes hno
  ·simp only [c1, if_false]
   by_cases c2 : (i : Int) > 0
   ·have e : wrap64 ((i : Int) - 1) = ((i - 1 : Nat) : Int) := by unfold wrap64; omega
    have h3 : (0 : Int) ≤ ((i - 1 : Nat) : Int) := by omega
    have h4 : (((i - 1 : Nat) : Int) < (l.length : Int)) := by omega
    simp only [c2, if_true, e, h3, h4]
    by_cases c3 : (rd_T44 l (i : Int)).f0 ≤ (rd_T44 l ((i - 1 : Nat) : Int)).f0
    ·simp only [c3, if_true]
     exact valid_j1 l hB i (by omega) true R (by symm; apply decide_eq_true; intro h; have := h.2.1 (by omega); simp only [idP] at this; omega) hyes hno
    ·simp only [c3, if_false, volume_dec, Option.bind_some]
     refine valid_j1 l hB i (by omega) _ R ?_ hyes hno
     rw [← decide_not]
     apply decide_eq_decide.2
     simp only [idP, loP]
     constructor
     ·intro h h'; exact h h'.2.2
     ·intro h h'; exact h ⟨by omega, fun _ => by omega, h'⟩
   ·simp only [c2, if_false, volume_dec, Option.bind_some]
    refine valid_j1 l hB i (by omega) _ R ?_ hyes hno
    rw [← decide_not]
    apply decide_eq_decide.2
    simp only [idP, loP]
    constructor
    ·intro h h'; exact h h'.2.2
    ·intro h h'; exact h ⟨by omega, fun h0 => by omega, h'⟩
theorem valid_f (l : List PI) (hB : l.length ≤ 140737488355328) : Ev (fun k => cohousingref28_Valid.f k l) (decide (okL l ∧ l.length ≤ 200)) := by
 have := valid_l0 l hB l.length 0 (by omega)
 rw [show decide (okL l ∧ l.length ≤ 200) = (decide (∀ j, 0 ≤ j → j < l.length → okP l j) && decide (l.length ≤ 200)) from by
  rw [Bool.decide_and]
  congr 1
  exact decide_eq_decide.2 ⟨fun h j _ hj => h j hj, fun h j hj => h j (Nat.zero_le _) hj⟩]
 exact this
theorem range_split (i n : Nat) (h : i < n) : List.range n = List.range (i + 1) ++ List.range' (i + 1) (n - (i + 1)) := by
 rw [List.range_eq_range', List.range_eq_range', show n = (i + 1) + (n - (i + 1)) by omega, ← List.range'_append]
 simp
theorem kidsAt_range (l : List PI) (i : Nat) (h : i < l.length) : kidsAt l l.length i = (List.range' (i + 1) (l.length - (i + 1))).filter (fun k => decide (abP l k = idP l i)) := by
 unfold kidsAt
 rw [range_split i l.length h, List.filter_append]
 have e1 : (List.range (i + 1)).filter (fun k => decide (i < k) && decide (abP l k = idP l i)) = [] := by
  rw [List.filter_eq_nil_iff]
  intro k hk
  have := List.mem_range.1 hk
  simp; omega
 rw [e1, List.nil_append]
 apply List.filter_congr
 intro k hk
 have := List.mem_range'.1 hk
 obtain ⟨j, hj, e⟩ := this
 rw [decide_eq_true (show i < k by omega), Bool.true_and]
theorem below_l0' (l : List PI) (hB : l.length ≤ 200) (i : Nat) (hi : i < l.length) : ∀ (d x : Nat) (acc : List Int), x + d = l.length → acc.length ≤ x →
  Ev (fun k => cohousingref28_below.l0 k l (i : Int) acc (x : Int)) (acc ++ ((List.range' x d).filter (fun k => decide (abP l k = idP l i))).map Int.ofNat) := by
 intro d
 induction d with
 | zero =>
  intro x acc hx _
  have h1 : ¬ ((x : Int) < (l.length : Int)) := by omega
  refine Ev.step ?_
  simp only [cohousingref28_below.l0, h1, if_false, List.range'_zero, List.filter_nil, List.map_nil, List.append_nil]
  exact Ev.pure _
 | succ d ih =>
  intro x acc hx ha
  have h1 : ((x : Int) < (l.length : Int)) := by omega
  have h2 : (0 : Int) ≤ (x : Int) := by omega
  have h3 : (0 : Int) ≤ (i : Int) := by omega
  have h4 : ((i : Int) < (l.length : Int)) := by omega
  refine Ev.step ?_
  rw [List.range'_succ]
  by_cases hc : (rd_T44 l (x : Int)).f1 = (rd_T44 l (i : Int)).f0
  ·have h5 : acc.length < 17592186044416 := by omega
   ·simp only [cohousingref28_below.l0, h1, h2, h3, h4, h5, hc, if_true, wrap_nat (show x ≤ 140737488355328 by omega)]
    rw [List.filter_cons_of_pos (by simpa using hc)]
    have := ih (x + 1) (acc ++ [(x : Int)]) (by omega) (by simp; omega)
    rw [List.append_assoc] at this
    exact this
  ·simp only [cohousingref28_below.l0, h1, h2, h3, h4, hc, if_true, if_false, wrap_nat (show x ≤ 140737488355328 by omega)]
   rw [List.filter_cons_of_neg (by simpa using hc)]
   exact ih (x + 1) acc (by omega) (by omega)
theorem below_f' (l : List PI) (hB : l.length ≤ 200) (i : Nat) (hi : i < l.length) : Ev (fun k => cohousingref28_below.f k l (i : Int)) ((kidsAt l l.length i).map Int.ofNat) := by
 have := below_l0' l hB i hi (l.length - (i + 1)) (i + 1) [] (by omega) (by simp)
 rw [kidsAt_range l i hi]
 unfold cohousingref28_below.f
 rw [wrap_nat (by omega)]
 rw [List.nil_append] at this
 exact this
abbrev rr (r : List RG) (i : Nat) : RG := rd_T39 r i
theorem rv_toI (r : List RG) (i : Nat) : rv (r.map toI) i = toI (rr r i) := by
 simp only [rv, rr, rd_T59, rd_T39, Int.toNat_natCast, List.getD_eq_getElem?_getD, List.getElem?_map]
 cases r[i]? <;> rfl
theorem Lo_toI (r : List RG) (i : Nat) : Lo (r.map toI) i = (rr r i).f0 := by unfold Lo; rw [rv_toI]; rfl
theorem Hi_toI (r : List RG) (i : Nat) : Hi (r.map toI) i = (rr r i).f1 := by unfold Hi; rw [rv_toI]; rfl
theorem empty_l0 (r : List RG) (hB : r.length ≤ 140737488355328) : ∀ (d i : Nat), i + d = r.length → Ev (fun k => cohousingref28_empty.l0 k r (i : Int)) (decide (∃ j, i ≤ j ∧ j < r.length ∧ (rr r j).f1 < (rr r j).f0)) := by
 intro d
 induction d with
 | zero =>
  intro i hi
  have h1 : ¬ ((i : Int) < (r.length : Int)) := by omega
  refine Ev.step ?_
  simp only [cohousingref28_empty.l0, h1, if_false]
  rw [decide_eq_false (by rintro ⟨j, h2, h3, _⟩; omega)]
  exact Ev.pure _
 | succ d ih =>
  intro i hi
  have h1 : ((i : Int) < (r.length : Int)) := by omega
  have h2 : (0 : Int) ≤ (i : Int) := by omega
  refine Ev.step ?_
  by_cases hc : (rd_T39 r (i : Int)).f0 > (rd_T39 r (i : Int)).f1
  ·simp only [cohousingref28_empty.l0, h1, h2, hc, if_true]
   rw [decide_eq_true ⟨i, Nat.le_refl _, by omega, hc⟩]
   exact Ev.pure _
  ·simp only [cohousingref28_empty.l0, h1, h2, hc, if_true, if_false, wrap_nat (show i ≤ 140737488355328 by omega)]
   have := ih (i + 1) (by omega)
   rw [show decide (∃ j, i ≤ j ∧ j < r.length ∧ (rr r j).f1 < (rr r j).f0) = decide (∃ j, i + 1 ≤ j ∧ j < r.length ∧ (rr r j).f1 < (rr r j).f0) from decide_eq_decide.2 ⟨fun ⟨j, h3, h4, h5⟩ => ⟨j, by
    by_cases e : j = i
    ·subst e; exact absurd h5 hc
    ·omega, h4, h5⟩, fun ⟨j, h3, h4, h5⟩ => ⟨j, by omega, h4, h5⟩⟩]
   exact this
theorem empty_f (r : List RG) (hB : r.length ≤ 140737488355328) : Ev (fun k => cohousingref28_empty.f k r) (decide (∃ j, j < r.length ∧ (rr r j).f1 < (rr r j).f0)) := by
 have := empty_l0 r hB r.length 0 (by omega)
 rw [show decide (∃ j, j < r.length ∧ (rr r j).f1 < (rr r j).f0) = decide (∃ j, 0 ≤ j ∧ j < r.length ∧ (rr r j).f1 < (rr r j).f0) from decide_eq_decide.2 ⟨fun ⟨j, h⟩ => ⟨j, Nat.zero_le _, h⟩, fun ⟨j, _, h⟩ => ⟨j, h⟩⟩]
 exact this
theorem same_l0 (a b : List RG) (hB : a.length ≤ 140737488355328) (hl : a.length = b.length) : ∀ (d i : Nat), i + d = a.length → Ev (fun k => cohousingref28_Same.l0 k a b (i : Int)) (decide (∀ j, i ≤ j → j < a.length → rr a j = rr b j)) := by
 intro d
 induction d with
 | zero =>
  intro i hi
  have h1 : ¬ ((i : Int) < (a.length : Int)) := by omega
  refine Ev.step ?_
  simp only [cohousingref28_Same.l0, h1, if_false]
  rw [decide_eq_true (fun j h2 h3 => by omega)]
  exact Ev.pure _
 | succ d ih =>
  intro i hi
  have h1 : ((i : Int) < (a.length : Int)) := by omega
  have h2 : (0 : Int) ≤ (i : Int) := by omega
  have h3 : ((i : Int) < (b.length : Int)) := by omega
  refine Ev.step ?_
  by_cases hc : rr a i = rr b i
  ·have hc' : (!(((rd_T39 a (i : Int)).f0) == ((rd_T39 b (i : Int)).f0)) || (!(((rd_T39 a (i : Int)).f1) == ((rd_T39 b (i : Int)).f1)))) = false := by
    have : rd_T39 a (i : Int) = rd_T39 b (i : Int) := hc
    rw [this]; simp
   simp only [cohousingref28_Same.l0, h1, h2, h3, hc', if_true, if_false, Bool.false_eq_true, wrap_nat (show i ≤ 140737488355328 by omega)]
   have := ih (i + 1) (by omega)
   rw [show decide (∀ j, i ≤ j → j < a.length → rr a j = rr b j) = decide (∀ j, i + 1 ≤ j → j < a.length → rr a j = rr b j) from decide_eq_decide.2 ⟨fun h j h4 h5 => h j (by omega) h5, fun h j h4 h5 => by
    by_cases e : j = i
    ·subst e; exact hc
    ·exact h j (by omega) h5⟩]
   exact this
  ·have hc' : (!(((rd_T39 a (i : Int)).f0) == ((rd_T39 b (i : Int)).f0)) || (!(((rd_T39 a (i : Int)).f1) == ((rd_T39 b (i : Int)).f1)))) = true := by
    rw [Bool.or_eq_true, Bool.not_eq_true', Bool.not_eq_true', beq_eq_false_iff_ne, beq_eq_false_iff_ne]
    by_cases h4 : (rd_T39 a (i : Int)).f0 = (rd_T39 b (i : Int)).f0
    ·refine .inr (fun h5 => hc ?_)
     show rd_T39 a (i : Int) = rd_T39 b (i : Int)
     cases ha : rd_T39 a (i : Int)
     cases hb : rd_T39 b (i : Int)
     rw [ha, hb] at h4 h5
     simp only at h4 h5
     rw [h4, h5]
    ·exact .inl h4
   simp only [cohousingref28_Same.l0, h1, h2, h3, hc', if_true]
   rw [decide_eq_false (fun h => hc (h i (Nat.le_refl _) (by omega)))]
   exact Ev.pure _
theorem rr_ext {a b : List RG} (hl : a.length = b.length) (h : ∀ j, j < a.length → rr a j = rr b j) : a = b := by
 apply List.ext_getElem hl
 intro i h1 h2
 have := h i h1
 simp only [rr, rd_T39, Int.toNat_natCast, List.getD_eq_getElem?_getD, List.getElem?_eq_getElem h1, List.getElem?_eq_getElem h2, Option.getD_some] at this
 exact this
theorem same_f (a b : List RG) (hB : a.length ≤ 140737488355328) : Ev (fun k => cohousingref28_Same.f k a b) (decide (a = b)) := by
 unfold cohousingref28_Same.f
 by_cases hl : a.length = b.length
 ·have h1 : (a.length : Int) = (b.length : Int) := by omega
  simp only [h1, if_true]
  have := same_l0 a b hB hl a.length 0 (by omega)
  rw [show decide (a = b) = decide (∀ j, 0 ≤ j → j < a.length → rr a j = rr b j) from decide_eq_decide.2 ⟨fun h j _ _ => by rw [h], fun h => rr_ext hl (fun j hj => h j (Nat.zero_le _) hj)⟩]
  exact this
 ·have h1 : ¬ (a.length : Int) = (b.length : Int) := by omega
  simp only [h1, if_false]
  rw [decide_eq_false (fun h => hl (by rw [h]))]
  exact Ev.pure _
end Go.Proofs.Ytmojlpafpeeelaa.P
end
section
namespace Go.Proofs.Ytmojlpafpeeelaa.P
open Go.RowKit Go.Proofs.YtmojlpafpeeelaaW.PrintWords Go.Proofs.YtmojlpafpeeelaaW.PrintLast Go.Proofs.YtmojlpafpeeelaaW.PrintMore Go.Proofs.YtmojlpafpeeelaaH Go.Proofs.FlowTree
open Classical
def lo9 (r : List RG) (j : Nat) : Int := (rr r j).f0
def hi9 (r : List RG) (j : Nat) : Int := (rr r j).f1
theorem mx_max (a b : Int) : mx a b = max a b := by unfold mx; split <;> omega
theorem mn_min (a b : Int) : mn a b = min a b := by unfold mn; split <;> omega
section
variable (l : List PI) (r : List RG) (i : Nat)
def sL : Int := sm (lo9 r) (kidsAt l l.length i)
def sH : Int := sm (hi9 r) (kidsAt l l.length i)
def ownA : Int := max (lo9 r i) (sL l r i)
def ownB : Int := min (hi9 r i) (sH l r i + loP l i)
def eqAt (j : Nat) : RG :=
 if j = i then ⟨ownA l r i, ownB l r i⟩ else
 if i < j ∧ abP l j = idP l i then ⟨max (lo9 r j) (ownA l r i - loP l i - (sH l r i - hi9 r j)), min (hi9 r j) (ownB l r i - (sL l r i - lo9 r j))⟩ else rr r j
end
theorem take_sm (f : Nat → Int) (ks : List Nat) (x : Nat) (h : x < ks.length) : sm f (ks.take (x + 1)) = sm f (ks.take x) + f ks[x] := by
 rw [List.take_succ_eq_append_getElem h, sm_append, sm_cons, sm_nil]; omega
theorem rd_ofNat (ks : List Nat) (x : Nat) (h : x < ks.length) : rd (ks.map Int.ofNat) (x : Int) = (ks[x] : Int) := by
 simp [rd, List.getD_eq_getElem?_getD, h]
theorem sm_take_le {f : Nat → Int} {ks : List Nat} {B : Int} (h : ∀ k ∈ ks, 0 ≤ f k ∧ f k ≤ B) (x : Nat) : 0 ≤ sm f (ks.take x) ∧ sm f (ks.take x) ≤ sm f ks := by
 have h1 : 0 ≤ sm f (ks.take x) := sm_nonneg (fun k hk => (h k (List.mem_of_mem_take hk)).1)
 have h2 : 0 ≤ sm f (ks.drop x) := sm_nonneg (fun k hk => (h k (List.mem_of_mem_drop hk)).1)
 have h3 : sm f ks = sm f (ks.take x) + sm f (ks.drop x) := by rw [← sm_append, List.take_append_drop]
 omega
section
variable {l : List PI} {r : List RG} {i : Nat}
theorem sums_bound (hn : l.length ≤ 200) (hv : Vol l.length (lo9 r) (hi9 r)) : (0 ≤ sL l r i ∧ sL l r i ≤ 200000000000) ∧ (0 ≤ sH l r i ∧ sH l r i ≤ 200000000000) := by
 have hk : ∀ k ∈ kidsAt l l.length i, k < l.length := fun k hk => (kidsAt_mem.1 hk).1
 have bL := sm_bound (f := lo9 r) (ks := kidsAt l l.length i) (a := 0) (b := 1000000000) (fun k hk' => by have := hv k (hk k hk'); omega)
 have bH := sm_bound (f := hi9 r) (ks := kidsAt l l.length i) (a := 0) (b := 1000000000) (fun k hk' => by have := hv k (hk k hk'); omega)
 have bl := kids_len l i
 unfold sL sH
 omega
set_option maxHeartbeats 1000000 in
theorem eq_l1 (hok : okL l) (hn : l.length ≤ 200) (hr : r.length = l.length) (hv : Vol l.length (lo9 r) (hi9 r)) (hi : i < l.length) : ∀ (d x : Nat) (acc : List RG), x + d = l.length → acc.length = x →
  Ev (fun k => cohousingref28_equation.l1 k l r (i : Int) (sL l r i) (sH l r i) acc (x : Int) (ownA l r i) (ownB l r i)) (acc ++ (List.range' x d).map (eqAt l r i)) := by
 intro d
 have hb := sums_bound (i := i) hn hv
 have hvi := hv i hi
 have hlo := (hok i hi).2.2.1
 have hoA : 0 ≤ ownA l r i ∧ ownA l r i ≤ 200000000000 := by unfold ownA; omega
 have hoB : 0 ≤ ownB l r i ∧ ownB l r i ≤ 1000000000 := by unfold ownB; omega
 induction d with
 | zero =>
  intro x acc hx _
  have h1 : ¬ ((x : Int) < (r.length : Int)) := by omega
  refine Ev.step ?_
  simp only [cohousingref28_equation.l1, h1, if_false, List.range'_zero, List.map_nil, List.append_nil]
  exact Ev.pure _
 | succ d ih =>
  intro x acc hx ha
  have h1 : ((x : Int) < (r.length : Int)) := by omega
  have h2 : (0 : Int) ≤ (x : Int) := by omega
  have h3 : ((x : Int) < (l.length : Int)) := by omega
  have h4 : (0 : Int) ≤ (i : Int) := by omega
  have h5 : ((i : Int) < (l.length : Int)) := by omega
  have h6 : acc.length < 8796093022208 := by omega
  have hw := wrap_nat (show x ≤ 140737488355328 by omega)
  have key : Ev (fun k => cohousingref28_equation.l1 k l r (i : Int) (sL l r i) (sH l r i) (acc ++ [eqAt l r i x]) ((x + 1 : Nat) : Int) (ownA l r i) (ownB l r i)) (acc ++ (List.range' x (d + 1)).map (eqAt l r i)) := by
   have := ih (x + 1) (acc ++ [eqAt l r i x]) (by omega) (by simp; omega)
   rw [List.append_assoc] at this
   rw [List.range'_succ, List.map_cons]
   exact this
  refine Ev.step ?_
  simp only [cohousingref28_equation.l1, h1, h2, h3, h4, h5, h6, if_true, hw]
  by_cases hxi : x = i
  ·have c1 : (x : Int) = (i : Int) := by rw [hxi]
   have c2 : ¬ ((i : Int) > (i : Int)) := Int.lt_irrefl _
   simp only [c1, c2, if_true, if_false]
   have e : eqAt l r i x = ⟨ownA l r i, ownB l r i⟩ := by unfold eqAt; rw [if_pos hxi]
   rw [e] at key
   exact key
  ·have c1 : ¬ (x : Int) = (i : Int) := fun h => hxi (Int.ofNat_inj.1 h)
   simp only [c1, if_false]
   by_cases hlt : i < x
   ·have c2 : ((x : Int) > (i : Int)) := Int.ofNat_lt.2 hlt
    simp only [c2, if_true]
    by_cases hab : (rd_T44 l (x : Int)).f1 = (rd_T44 l (i : Int)).f0
    ·simp only [hab, if_true, cohousingref28_narrow.f, Option.bind_some]
     have hvx := hv x (by omega)
     have e : eqAt l r i x = ⟨mx (rd_T39 r (x : Int)).f0 (wrap64 (wrap64 (ownA l r i - (rd_T44 l (i : Int)).f2) - wrap64 (sH l r i - (rd_T39 r (x : Int)).f1))), mn (rd_T39 r (x : Int)).f1 (wrap64 (ownB l r i - wrap64 (sL l r i - (rd_T39 r (x : Int)).f0)))⟩ := by
      unfold eqAt
      rw [if_neg hxi, if_pos ⟨hlt, hab⟩, mx_max, mn_min]
      have w1 : (rd_T39 r (x : Int)).f0 = lo9 r x := rfl
      have w2 : (rd_T39 r (x : Int)).f1 = hi9 r x := rfl
      have w3 : (rd_T44 l (i : Int)).f2 = loP l i := rfl
      rw [w1, w2, w3, wrap_id (n := ownA l r i - loP l i) (by omega) (by omega), wrap_id (n := sH l r i - hi9 r x) (by omega) (by omega), wrap_id (n := sL l r i - lo9 r x) (by omega) (by omega), wrap_id (by omega) (by omega), wrap_id (by omega) (by omega)]
     rw [e] at key
     exact key
    ·simp only [hab, if_false]
     have e : eqAt l r i x = ⟨(rd_T39 r (x : Int)).f0, (rd_T39 r (x : Int)).f1⟩ := by
      unfold eqAt
      rw [if_neg hxi, if_neg (fun h => hab h.2)]
     rw [e] at key
     exact key
   ·have c2 : ¬ ((x : Int) > (i : Int)) := fun h => hlt (Int.ofNat_lt.1 h)
    simp only [c2, if_false]
    have e : eqAt l r i x = ⟨(rd_T39 r (x : Int)).f0, (rd_T39 r (x : Int)).f1⟩ := by
     unfold eqAt
     rw [if_neg hxi, if_neg (fun h => hlt h.1)]
    rw [e] at key
    exact key
theorem eq_l0 (hok : okL l) (hn : l.length ≤ 200) (hr : r.length = l.length) (hv : Vol l.length (lo9 r) (hi9 r)) (hi : i < l.length) : ∀ (d x : Nat), x + d = (kidsAt l l.length i).length →
  Ev (fun k => cohousingref28_equation.l0 k l r (i : Int) ((kidsAt l l.length i).map Int.ofNat) (sm (lo9 r) ((kidsAt l l.length i).take x)) (sm (hi9 r) ((kidsAt l l.length i).take x)) (x : Int)) ((List.range l.length).map (eqAt l r i)) := by
 intro d
 have hb := sums_bound (i := i) hn hv
 have hvi := hv i hi
 have hlo := (hok i hi).2.2.1
 have hkl := kids_len l i
 have hkm : ∀ k ∈ kidsAt l l.length i, k < l.length := fun k hk => (kidsAt_mem.1 hk).1
 induction d with
 | zero =>
  intro x hx
  have h1 : ¬ ((x : Int) < (((kidsAt l l.length i).map Int.ofNat).length : Int)) := by rw [List.length_map]; omega
  have h2 : (0 : Int) ≤ (i : Int) := by omega
  have h3 : ((i : Int) < (r.length : Int)) := by omega
  have h4 : ((i : Int) < (l.length : Int)) := by omega
  refine Ev.step ?_
  rw [List.take_of_length_le (by omega)]
  simp only [cohousingref28_equation.l0, h1, h2, h3, h4, if_true, if_false, cohousingref28_narrow.f, Option.bind_some]
  have e1 : mx (rd_T39 r (i : Int)).f0 (sm (lo9 r) (kidsAt l l.length i)) = ownA l r i := by rw [mx_max]; rfl
  have e2 : mn (rd_T39 r (i : Int)).f1 (wrap64 (sm (hi9 r) (kidsAt l l.length i) + (rd_T44 l (i : Int)).f2)) = ownB l r i := by
   rw [mn_min]
   have w1 : (rd_T44 l (i : Int)).f2 = loP l i := rfl
   have w2 : sm (hi9 r) (kidsAt l l.length i) = sH l r i := rfl
   rw [w1, w2, wrap_id (by omega) (by omega)]
   rfl
  rw [e1, e2]
  have := eq_l1 hok hn hr hv hi l.length 0 [] (by omega) rfl
  rw [List.nil_append, ← List.range_eq_range'] at this
  exact this
 | succ d ih =>
  intro x hx
  have hxl : x < (kidsAt l l.length i).length := by omega
  have h1 : ((x : Int) < (((kidsAt l l.length i).map Int.ofNat).length : Int)) := by rw [List.length_map]; omega
  have h2 : (0 : Int) ≤ (x : Int) := by omega
  have hk := hkm _ (List.getElem_mem hxl)
  have h3 : (0 : Int) ≤ (((kidsAt l l.length i)[x] : Nat) : Int) := by omega
  have h4 : ((((kidsAt l l.length i)[x] : Nat) : Int) < (r.length : Int)) := by omega
  have hvk := hv _ hk
  have t1 := sm_take_le (f := lo9 r) (ks := kidsAt l l.length i) (B := 1000000000) (fun k hk' => by have := hv k (hkm k hk'); omega) (x + 1)
  have t2 := sm_take_le (f := hi9 r) (ks := kidsAt l l.length i) (B := 1000000000) (fun k hk' => by have := hv k (hkm k hk'); omega) (x + 1)
  have hb1 : sm (lo9 r) (kidsAt l l.length i) ≤ 200000000000 := hb.1.2
  have hb2 : sm (hi9 r) (kidsAt l l.length i) ≤ 200000000000 := hb.2.2
  refine Ev.step ?_
  simp only [cohousingref28_equation.l0, h1, h2, if_true, rd_ofNat _ _ hxl, h3, h4, wrap_nat (show x ≤ 140737488355328 by omega)]
  have e1 : wrap64 (sm (lo9 r) ((kidsAt l l.length i).take x) + (rd_T39 r (((kidsAt l l.length i)[x] : Nat) : Int)).f0) = sm (lo9 r) ((kidsAt l l.length i).take (x + 1)) := by
   have w1 : (rd_T39 r (((kidsAt l l.length i)[x] : Nat) : Int)).f0 = lo9 r (kidsAt l l.length i)[x] := rfl
   rw [w1, ← take_sm _ _ _ hxl, wrap_id (by omega) (by omega)]
  have e2 : wrap64 (sm (hi9 r) ((kidsAt l l.length i).take x) + (rd_T39 r (((kidsAt l l.length i)[x] : Nat) : Int)).f1) = sm (hi9 r) ((kidsAt l l.length i).take (x + 1)) := by
   have w1 : (rd_T39 r (((kidsAt l l.length i)[x] : Nat) : Int)).f1 = hi9 r (kidsAt l l.length i)[x] := rfl
   rw [w1, ← take_sm _ _ _ hxl, wrap_id (by omega) (by omega)]
  rw [e1, e2]
  exact ih (x + 1) (by omega)
theorem eq_f (hok : okL l) (hn : l.length ≤ 200) (hr : r.length = l.length) (hv : Vol l.length (lo9 r) (hi9 r)) (hi : i < l.length) :
  Ev (fun k => cohousingref28_equation.f k l r (i : Int) ((kidsAt l l.length i).map Int.ofNat)) ((List.range l.length).map (eqAt l r i)) :=
 eq_l0 hok hn hr hv hi (kidsAt l l.length i).length 0 (by omega)
theorem rr_map (f : Nat → RG) (n j : Nat) (h : j < n) : rr ((List.range n).map f) j = f j := by
 simp [rr, rd_T39, List.getD_eq_getElem?_getD, h]
end
end Go.Proofs.Ytmojlpafpeeelaa.P
end
section
namespace Go.Proofs.Ytmojlpafpeeelaa.P
open Go.RowKit Go.Proofs.YtmojlpafpeeelaaW.PrintWords Go.Proofs.YtmojlpafpeeelaaW.PrintLast Go.Proofs.YtmojlpafpeeelaaW.PrintMore Go.Proofs.YtmojlpafpeeelaaH Go.Proofs.FlowTree
open Classical
section
variable {l : List PI}
def Done (l : List PI) (r : List RG) (p : Nat) : Prop := kidsAt l l.length p ≠ [] → (sL l r p ≤ lo9 r p ∧ hi9 r p ≤ sH l r p + loP l p) ∧
 ∀ k ∈ kidsAt l l.length p, lo9 r p - loP l p - (sH l r p - hi9 r k) ≤ lo9 r k ∧ hi9 r k ≤ hi9 r p - (sL l r p - lo9 r k)
structure Narrow (l : List PI) (r e : List RG) : Prop where
 len : e.length = l.length
 rng : ∀ j, j < l.length → lo9 r j ≤ lo9 e j ∧ hi9 e j ≤ hi9 r j
 sol : ∀ x, Sol (netT l) (lo9 r) (hi9 r) x → Sol (netT l) (lo9 e) (hi9 e) x
theorem Narrow.refl {r : List RG} (h : r.length = l.length) : Narrow l r r := ⟨h, fun _ _ => ⟨Int.le_refl _, Int.le_refl _⟩, fun _ hx => hx⟩
theorem Narrow.trans {r e f : List RG} (h : Narrow l r e) (h' : Narrow l e f) : Narrow l r f :=
 ⟨h'.len, fun j hj => by have := h.rng j hj; have := h'.rng j hj; omega, fun x hx => h'.sol x (h.sol x hx)⟩
def Dead (l : List PI) (e : List RG) : Prop := ∃ j, j < l.length ∧ hi9 e j < lo9 e j
theorem vol_not_dead {e : List RG} (h : Vol l.length (lo9 e) (hi9 e)) : ¬ Dead l e := fun ⟨j, hj, hd⟩ => by have := h j hj; omega
theorem dead_no_sol {e : List RG} (h : Dead l e) : ¬ ∃ x, Sol (netT l) (lo9 e) (hi9 e) x := fun ⟨x, hx⟩ => by
 obtain ⟨j, hj, hd⟩ := h
 have := hx.1 j hj
 omega
theorem eq_step (hok : okL l) (hn : l.length ≤ 200) {r : List RG} (hr : r.length = l.length) (hv : Vol l.length (lo9 r) (hi9 r)) {i : Nat} (hi : i < l.length) (hne : kidsAt l l.length i ≠ []) :
  Narrow l r ((List.range l.length).map (eqAt l r i)) ∧ (Dead l ((List.range l.length).map (eqAt l r i)) ∨ Vol l.length (lo9 ((List.range l.length).map (eqAt l r i))) (hi9 ((List.range l.length).map (eqAt l r i)))) ∧
   (((List.range l.length).map (eqAt l r i)) = r → Done l r i) := by
 have hT := netT_ok hok
 have hvi := hv i hi
 have hlo := (hok i hi).2.2.1
 have hat : ∀ j, j < l.length → rr ((List.range l.length).map (eqAt l r i)) j = eqAt l r i j := fun j hj => rr_map _ _ j hj
 obtain ⟨e, he⟩ : ∃ e, e = (List.range l.length).map (eqAt l r i) := ⟨_, rfl⟩
 rw [← he] at hat ⊢
 have hlen : e.length = l.length := by rw [he, List.length_map, List.length_range]
 have hkid : ∀ k ∈ kidsAt l l.length i, i < k ∧ k < l.length := fun k hk' => hT.lt i k hk'
 have hkid' : ∀ k, k < l.length → (i < k ∧ abP l k = idP l i) → k ∈ kidsAt l l.length i := fun k hk h => kidsAt_mem.2 ⟨hk, h.1, h.2⟩
 have hown : lo9 e i = ownA l r i ∧ hi9 e i = ownB l r i := by
  have := hat i hi
  unfold eqAt at this
  rw [if_pos rfl] at this
  exact ⟨by unfold lo9; rw [this], by unfold hi9; rw [this]⟩
 have hk : ∀ k ∈ kidsAt l l.length i, lo9 e k = max (lo9 r k) (ownA l r i - loP l i - (sH l r i - hi9 r k)) ∧ hi9 e k = min (hi9 r k) (ownB l r i - (sL l r i - lo9 r k)) := by
  intro k hk'
  have hm := kidsAt_mem.1 hk'
  have := hat k (hkid k hk').2
  unfold eqAt at this
  rw [if_neg (by omega), if_pos ⟨hm.2.1, hm.2.2⟩] at this
  exact ⟨by unfold lo9; rw [this]; rfl, by unfold hi9; rw [this]; rfl⟩
 have hsame : ∀ j, j < l.length → j ≠ i → j ∉ kidsAt l l.length i → lo9 e j = lo9 r j ∧ hi9 e j = hi9 r j := by
  intro j hj h1 h2
  have := hat j hj
  unfold eqAt at this
  rw [if_neg h1, if_neg (fun h => h2 (hkid' j hj h))] at this
  exact ⟨by unfold lo9; rw [this], by unfold hi9; rw [this]⟩
 have hsplit : ∀ k ∈ kidsAt l l.length i, ∃ a b, sL l r i = lo9 r k + sm (lo9 r) (a ++ b) ∧ sH l r i = hi9 r k + sm (hi9 r) (a ++ b) ∧ (∀ x, sm x (kidsAt l l.length i) = x k + sm x (a ++ b)) ∧ (∀ q ∈ a ++ b, q ∈ kidsAt l l.length i) := by
  intro k hk'
  obtain ⟨a, b, hab, _⟩ := sm_split (lo9 r) hk'
  have hx : ∀ x : Nat → Int, sm x (kidsAt l l.length i) = x k + sm x (a ++ b) := fun x => by rw [hab, sm_append, sm_append, sm_cons]; omega
  refine ⟨a, b, hx _, hx _, hx, fun q hq => ?_⟩
  rw [hab]
  rcases List.mem_append.1 hq with h' | h'
  ·exact List.mem_append.2 (.inl h')
  ·exact List.mem_append.2 (.inr (List.mem_cons_of_mem _ h'))
 have hnar : Narrow l r e := by
  refine ⟨hlen, fun j hj => ?_, fun x hx => ⟨fun j hj => ?_, hx.2⟩⟩
  ·by_cases h1 : j = i
   ·subst h1
    rw [hown.1, hown.2]
    unfold ownA ownB
    omega
   ·by_cases h2 : j ∈ kidsAt l l.length i
    ·have := hk j h2; omega
    ·have := hsame j hj h1 h2; omega
  ·have hxj := hx.1 j hj
   have hxi := hx.1 i hi
   have h4 := hx.2 i hi hne
   simp only [netT] at h4
   have l1 : sL l r i ≤ sm x (kidsAt l l.length i) := sm_le (fun q hq => (hx.1 q (hkid q hq).2).1)
   have l2 : sm x (kidsAt l l.length i) ≤ sH l r i := sm_le (fun q hq => (hx.1 q (hkid q hq).2).2)
   have ho : ownA l r i ≤ x i ∧ x i ≤ ownB l r i := by unfold ownA ownB; omega
   by_cases h1 : j = i
   ·subst h1
    rw [hown.1, hown.2]
    exact ho
   ·by_cases h2 : j ∈ kidsAt l l.length i
    ·obtain ⟨a, b, e1, e2, e3, hq⟩ := hsplit j h2
     have e4 := e3 x
     have m1 : sm (lo9 r) (a ++ b) ≤ sm x (a ++ b) := sm_le (fun q h => (hx.1 q (hkid q (hq q h)).2).1)
     have m2 : sm x (a ++ b) ≤ sm (hi9 r) (a ++ b) := sm_le (fun q h => (hx.1 q (hkid q (hq q h)).2).2)
     have := hk j h2
     omega
    ·have := hsame j hj h1 h2; omega
 refine ⟨hnar, ?_, fun hee => ?_⟩
 ·by_cases hd : ownA l r i ≤ ownB l r i
  ·refine .inr (fun j hj => ?_)
   have hvj := hv j hj
   have hoA : lo9 r i ≤ ownA l r i ∧ sL l r i ≤ ownA l r i := by unfold ownA; omega
   have hoB : ownB l r i ≤ hi9 r i ∧ ownB l r i ≤ sH l r i + loP l i := by unfold ownB; omega
   by_cases h1 : j = i
   ·subst h1
    rw [hown.1, hown.2]
    omega
   ·by_cases h2 : j ∈ kidsAt l l.length i
    ·obtain ⟨a, b, e1, e2, e3, hq⟩ := hsplit j h2
     have m1 : sm (lo9 r) (a ++ b) ≤ sm (hi9 r) (a ++ b) := sm_le (fun q h => (hv q (hkid q (hq q h)).2).2.1)
     have := hk j h2
     omega
    ·have := hsame j hj h1 h2; omega
  ·exact .inl ⟨i, hi, by rw [hown.1, hown.2]; omega⟩
 ·intro _
  have h1 : lo9 r i = ownA l r i ∧ hi9 r i = ownB l r i := by rw [← hown.1, ← hown.2, hee]; exact ⟨rfl, rfl⟩
  refine ⟨?_, fun k hk' => ?_⟩
  ·unfold ownA ownB at h1
   omega
  ·have h2 := hk k hk'
   rw [hee] at h2
   omega
structure OnceAt (l : List PI) (r : List RG) (m : Nat) (e : List RG) : Prop where
 nar : Narrow l r e
 now : Dead l e ∨ Vol l.length (lo9 e) (hi9 e)
 fix : Vol l.length (lo9 e) (hi9 e) → e = r → ∀ p, p < m → Done l r p
theorem nil_len (l : List PI) (p : Nat) (h : kidsAt l l.length p = []) : ∀ r, Done l r p := fun _ hc => absurd h hc
theorem once_dead (hn : l.length ≤ 200) {r : List RG} (hr : r.length = l.length) (hd : Dead l r) : ∀ m, m ≤ l.length → Ev (fun k => cohousingref28_once.l0 k l r ((m : Int) - 1)) r := by
 intro m
 induction m with
 | zero =>
  intro _
  have h1 : ¬ (((0 : Nat) : Int) - 1 ≥ 0) := by omega
  refine Ev.step ?_
  simp only [cohousingref28_once.l0, h1, if_false]
  exact Ev.pure _
 | succ m ih =>
  intro hm
  have e : ((m + 1 : Nat) : Int) - 1 = (m : Int) := by omega
  have h1 : ((m : Int) ≥ 0) := by omega
  have e2 : wrap64 ((m : Int) - 1) = (m : Int) - 1 := wrap_id (by omega) (by omega)
  rw [e]
  refine Ev.step ?_
  simp only [cohousingref28_once.l0, h1, if_true, e2]
  refine Ev.bnd (below_f' l hn m (by omega)) ?_
  have hem := empty_f r (by omega)
  rw [decide_eq_true (show ∃ j, j < r.length ∧ (rr r j).f1 < (rr r j).f0 from by
   obtain ⟨j, hj, h⟩ := hd
   exact ⟨j, by omega, h⟩)] at hem
  by_cases hc : (((kidsAt l l.length m).map Int.ofNat).length : Int) > 0
  ·simp only [hc, if_true]
   refine Ev.bnd hem ?_
   simp only [if_true]
   exact ih (by omega)
  ·simp only [hc, if_false]
   exact ih (by omega)
theorem once_l0 (hok : okL l) (hn : l.length ≤ 200) : ∀ m, m ≤ l.length → ∀ r : List RG, r.length = l.length → Vol l.length (lo9 r) (hi9 r) → ∃ e, Ev (fun k => cohousingref28_once.l0 k l r ((m : Int) - 1)) e ∧ OnceAt l r m e := by
 intro m
 induction m with
 | zero =>
  intro _ r hr hv
  refine ⟨r, ?_, ⟨Narrow.refl hr, .inr hv, fun _ _ p hp => absurd hp (Nat.not_lt_zero _)⟩⟩
  have h1 : ¬ (((0 : Nat) : Int) - 1 ≥ 0) := by omega
  refine Ev.step ?_
  simp only [cohousingref28_once.l0, h1, if_false]
  exact Ev.pure _
 | succ m ih =>
  intro hm r hr hv
  have e : ((m + 1 : Nat) : Int) - 1 = (m : Int) := by omega
  have h1 : ((m : Int) ≥ 0) := by omega
  have e2 : wrap64 ((m : Int) - 1) = (m : Int) - 1 := wrap_id (by omega) (by omega)
  have hem := empty_f r (by omega)
  rw [decide_eq_false (show ¬ ∃ j, j < r.length ∧ (rr r j).f1 < (rr r j).f0 from by
   rintro ⟨j, hj, h⟩
   exact vol_not_dead hv ⟨j, by omega, h⟩)] at hem
  rw [e]
  by_cases hne : kidsAt l l.length m = []
  ·obtain ⟨e', he', ho⟩ := ih (by omega) r hr hv
   refine ⟨e', Ev.step ?_, ⟨ho.nar, ho.now, fun hv' hee p hp => ?_⟩⟩
   ·simp only [cohousingref28_once.l0, h1, if_true, e2]
    refine Ev.bnd (below_f' l hn m (by omega)) ?_
    have hc : ¬ (((kidsAt l l.length m).map Int.ofNat).length : Int) > 0 := by rw [hne]; simp
    simp only [hc, if_false]
    exact he'
   ·by_cases h' : p < m
    ·exact ho.fix hv' hee p h'
    ·rw [show p = m by omega]; exact nil_len l m hne r
  ·have hst := eq_step hok hn hr hv (i := m) (by omega) hne
   obtain ⟨q, hq⟩ : ∃ q, q = (List.range l.length).map (eqAt l r m) := ⟨_, rfl⟩
   rw [← hq] at hst
   have hqf := eq_f hok hn hr hv (i := m) (by omega)
   rw [← hq] at hqf
   have hrest : ∃ e', Ev (fun k => cohousingref28_once.l0 k l q ((m : Int) - 1)) e' ∧ OnceAt l q m e' := by
    rcases hst.2.1 with hd | hv'
    ·exact ⟨q, once_dead hn hst.1.len hd m (by omega), Narrow.refl hst.1.len, .inl hd, fun hv2 _ => absurd hd (vol_not_dead hv2)⟩
    ·exact ih (by omega) q hst.1.len hv'
   obtain ⟨e', he', ho⟩ := hrest
   refine ⟨e', Ev.step ?_, ⟨hst.1.trans ho.nar, ho.now, fun hv' hee p hp => ?_⟩⟩
   ·simp only [cohousingref28_once.l0, h1, if_true, e2]
    refine Ev.bnd (below_f' l hn m (by omega)) ?_
    have hc : (((kidsAt l l.length m).map Int.ofNat).length : Int) > 0 := by
     have := List.length_pos_iff.2 hne
     rw [List.length_map]; omega
    simp only [hc, if_true]
    refine Ev.bnd hem ?_
    simp only [Bool.false_eq_true, if_false]
    exact Ev.bnd hqf he'
   ·have hqr : q = r := by
     apply rr_ext (by rw [hst.1.len, hr])
     intro j hj
     rw [hst.1.len] at hj
     have a1 := hst.1.rng j hj
     have a2 := ho.nar.rng j hj
     rw [hee] at a2
     have b1 : lo9 q j = lo9 r j := by omega
     have b2 : hi9 q j = hi9 r j := by omega
     unfold lo9 at b1
     unfold hi9 at b2
     cases h1 : rr q j
     cases h2 : rr r j
     rw [h1, h2] at b1 b2
     simp only at b1 b2
     rw [b1, b2]
    by_cases h' : p < m
    ·have := ho.fix hv' (hee.trans hqr.symm) p h'
     rw [hqr] at this
     exact this
    ·rw [show p = m by omega]
     exact hst.2.2 hqr
theorem once_f (hok : okL l) (hn : l.length ≤ 200) (r : List RG) (hr : r.length = l.length) (hv : Vol l.length (lo9 r) (hi9 r)) : ∃ e, Ev (fun k => cohousingref28_once.f k l r) e ∧ OnceAt l r l.length e := by
 obtain ⟨e, he, ho⟩ := once_l0 hok hn l.length (Nat.le_refl _) r hr hv
 refine ⟨e, ?_, ho⟩
 unfold cohousingref28_once.f
 rw [wrap_id (by omega) (by omega)]
 exact he
def wide (n : Nat) (e : List RG) : Nat := (List.range n).foldl (fun s j => s + (hi9 e j - lo9 e j).toNat) 0
theorem wide_succ (n : Nat) (e : List RG) : wide (n + 1) e = wide n e + (hi9 e n - lo9 e n).toNat := by
 unfold wide
 rw [List.range_succ, List.foldl_append]
 rfl
theorem wide_le (r e : List RG) : ∀ n, (∀ j, j < n → lo9 r j ≤ lo9 e j ∧ hi9 e j ≤ hi9 r j) → wide n e ≤ wide n r := by
 intro n
 induction n with
 | zero => intro _; exact Nat.le_refl _
 | succ n ih =>
  intro h
  rw [wide_succ, wide_succ]
  have h1 := ih (fun j hj => h j (by omega))
  have h2 := h n (by omega)
  omega
theorem wide_lt (r e : List RG) : ∀ n, (∀ j, j < n → lo9 r j ≤ lo9 e j ∧ hi9 e j ≤ hi9 r j ∧ lo9 e j ≤ hi9 e j) → (∃ j, j < n ∧ (lo9 r j ≠ lo9 e j ∨ hi9 r j ≠ hi9 e j)) → wide n e < wide n r := by
 intro n
 induction n with
 | zero => rintro _ ⟨j, hj, _⟩; omega
 | succ n ih =>
  rintro h ⟨j, hj, hd⟩
  rw [wide_succ, wide_succ]
  have h2 := h n (by omega)
  by_cases hjn : j < n
  ·have h1 := ih (fun j hj => h j (by omega)) ⟨j, hjn, hd⟩
   omega
  ·have e1 : j = n := by omega
   subst e1
   have h1 := wide_le r e j (fun j hj => by have := h j (by omega); omega)
   omega
theorem bounds_l0 (hok : okL l) (hn : l.length ≤ 200) : ∀ (μ : Nat) (r : List RG), wide l.length r = μ → r.length = l.length → Vol l.length (lo9 r) (hi9 r) →
  (Ev (fun k => cohousingref28_bounds.l0 k l r) ([], false) ∧ ¬ ∃ x, Sol (netT l) (lo9 r) (hi9 r) x) ∨
  (∃ d, Ev (fun k => cohousingref28_bounds.l0 k l r) (d, true) ∧ Narrow l r d ∧ Vol l.length (lo9 d) (hi9 d) ∧ ∀ p, p < l.length → Done l d p) := by
 intro μ
 induction μ using Nat.strongRecOn with
 | ind μ ih =>
  intro r hμ hr hv
  obtain ⟨e, he, ho⟩ := once_f hok hn r hr hv
  have hem := empty_f e (by have := ho.nar.len; omega)
  have hsf := same_f e r (by have := ho.nar.len; omega)
  rcases ho.now with hd | hv'
  ·refine .inl ⟨Ev.step ?_, fun ⟨x, hx⟩ => dead_no_sol hd ⟨x, ho.nar.sol x hx⟩⟩
   rw [decide_eq_true (show ∃ j, j < e.length ∧ (rr e j).f1 < (rr e j).f0 from by
    obtain ⟨j, hj, h⟩ := hd
    exact ⟨j, by rw [ho.nar.len]; exact hj, h⟩)] at hem
   simp only [cohousingref28_bounds.l0]
   refine Ev.bnd he (Ev.bnd hem ?_)
   simp only [if_true]
   exact Ev.pure _
  ·rw [decide_eq_false (show ¬ ∃ j, j < e.length ∧ (rr e j).f1 < (rr e j).f0 from by
    rintro ⟨j, hj, h⟩
    exact vol_not_dead hv' ⟨j, by rw [← ho.nar.len]; exact hj, h⟩)] at hem
   by_cases hee : e = r
   ·rw [decide_eq_true hee] at hsf
    refine .inr ⟨e, Ev.step ?_, ho.nar, hv', fun p hp => by rw [hee]; exact ho.fix hv' hee p hp⟩
    simp only [cohousingref28_bounds.l0]
    refine Ev.bnd he (Ev.bnd hem ?_)
    simp only [Bool.false_eq_true, if_false]
    refine Ev.bnd hsf ?_
    simp only [if_true]
    exact Ev.pure _
   ·rw [decide_eq_false hee] at hsf
    have hlt : wide l.length e < μ := by
     rw [← hμ]
     refine wide_lt r e l.length (fun j hj => by have := ho.nar.rng j hj; have := hv' j hj; omega) ?_
     by_cases hex : ∃ j, j < l.length ∧ (lo9 r j ≠ lo9 e j ∨ hi9 r j ≠ hi9 e j)
     ·exact hex
     ·refine absurd (rr_ext (by rw [ho.nar.len, hr]) (fun j hj => ?_)) hee
      rw [ho.nar.len] at hj
      have b1 : lo9 e j = lo9 r j := by
       by_cases h : lo9 r j = lo9 e j
       ·exact h.symm
       ·exact absurd ⟨j, hj, .inl h⟩ hex
      have b2 : hi9 e j = hi9 r j := by
       by_cases h : hi9 r j = hi9 e j
       ·exact h.symm
       ·exact absurd ⟨j, hj, .inr h⟩ hex
      unfold lo9 at b1
      unfold hi9 at b2
      cases h1 : rr e j
      cases h2 : rr r j
      rw [h1, h2] at b1 b2
      simp only at b1 b2
      rw [b1, b2]
    have hrest : ∀ R, Ev (fun k => cohousingref28_bounds.l0 k l e) R → Ev (fun k => cohousingref28_bounds.l0 k l r) R := fun R hR => by
     refine Ev.step ?_
     simp only [cohousingref28_bounds.l0]
     refine Ev.bnd he (Ev.bnd hem ?_)
     simp only [Bool.false_eq_true, if_false]
     refine Ev.bnd hsf ?_
     simp only [Bool.false_eq_true, if_false]
     exact hR
    rcases ih (wide l.length e) hlt e rfl ho.nar.len hv' with ⟨h1, h2⟩ | ⟨d, h1, h2, h3, h4⟩
    ·exact .inl ⟨hrest _ h1, fun ⟨x, hx⟩ => h2 ⟨x, ho.nar.sol x hx⟩⟩
    ·exact .inr ⟨d, hrest _ h1, ho.nar.trans h2, h3, h4⟩
end
end Go.Proofs.Ytmojlpafpeeelaa.P
end
section
namespace Go.Proofs.Ytmojlpafpeeelaa.P
open Go.RowKit Go.Proofs.YtmojlpafpeeelaaW.PrintWords Go.Proofs.YtmojlpafpeeelaaW.PrintLast Go.Proofs.YtmojlpafpeeelaaW.PrintMore Go.Proofs.YtmojlpafpeeelaaH Go.Proofs.FlowTree
open Classical
theorem Lo_map (r : List RG) : Lo (r.map toI) = lo9 r := funext (fun i => Lo_toI r i)
theorem Hi_map (r : List RG) : Hi (r.map toI) = hi9 r := funext (fun i => Hi_toI r i)
theorem rr_toR (d : List IV) (i : Nat) : rr (d.map toR) i = toR (rv d i) := by
 simp only [rv, rr, rd_T59, rd_T39, Int.toNat_natCast, List.getD_eq_getElem?_getD, List.getElem?_map]
 cases d[i]? <;> rfl
theorem lo_map (d : List IV) : lo9 (d.map toR) = Lo d := funext (fun i => by unfold lo9; rw [rr_toR]; rfl)
theorem hi_map (d : List IV) : hi9 (d.map toR) = Hi d := funext (fun i => by unfold hi9; rw [rr_toR]; rfl)
theorem toI_toR (d : List IV) : (d.map toR).map toI = d := by
 rw [List.map_map]
 exact List.map_id d
theorem belongs_iff (n : Nat) (r : List RG) : belongsB n r = true ↔ r.length = n ∧ Vol n (lo9 r) (hi9 r) := by
 unfold belongsB
 rw [Bool.and_eq_true, decide_eq_true_eq, Bool.not_eq_true', List.any_eq_false]
 constructor
 ·rintro ⟨h1, h2⟩
  refine ⟨h1, fun j hj => ?_⟩
  have hj' : j < r.length := by omega
  have := h2 r[j] (List.getElem_mem hj')
  simp only [oddR, Bool.not_eq_true, decide_eq_false_iff_not, Decidable.not_not] at this
  have e : rr r j = r[j] := by simp [rr, rd_T39, List.getD_eq_getElem?_getD, hj']
  unfold lo9 hi9
  rw [e]
  omega
 ·rintro ⟨h1, h2⟩
  refine ⟨h1, fun x hx => ?_⟩
  obtain ⟨j, hj, rfl⟩ := List.mem_iff_getElem.1 hx
  have := h2 j (by omega)
  have e : rr r j = r[j] := by simp [rr, rd_T39, List.getD_eq_getElem?_getD, hj]
  unfold lo9 hi9 at this
  rw [e] at this
  simp only [oddR, Bool.not_eq_true, decide_eq_false_iff_not, Decidable.not_not]
  omega
structure Good (l : List PI) (r : List RG) : Prop where
 ok : okL l
 n : l.length ≤ 200
 len : r.length = l.length
 vol : Vol l.length (lo9 r) (hi9 r)
theorem good_iff (l : List PI) (r : List RG) : Good l r ↔ (okL l ∧ l.length ≤ 200) ∧ belongsB l.length r = true := by
 rw [belongs_iff]
 exact ⟨fun h => ⟨⟨h.ok, h.n⟩, h.len, h.vol⟩, fun h => ⟨h.1.1, h.1.2, h.2.1, h.2.2⟩⟩
theorem netOk_some {l : List PI} (h : okL l) (hn : l.length ≤ 200) : ∃ kids, netOk l = some kids ∧ ∀ j, j < l.length → rdK kids j = (kidsAt l l.length j).map Int.ofNat := by
 obtain ⟨kids, hk⟩ := openK_of h
 exact ⟨kids, by unfold netOk; rw [if_pos hn, hk], (openK_some hk).2⟩
theorem netOk_none {l : List PI} (h : ¬ (okL l ∧ l.length ≤ 200)) : netOk l = none := by
 unfold netOk
 by_cases hn : l.length ≤ 200
 ·rw [if_pos hn]
  cases ho : openK l with
  | none => rfl
  | some kids => exact absurd ⟨(openK_some ho).1, hn⟩ h
 ·rw [if_neg hn]
theorem valid_iff (l : List PI) : ((openK l).isSome && decide (l.length ≤ 200)) = decide (okL l ∧ l.length ≤ 200) := by
 by_cases h : okL l
 ·obtain ⟨kids, hk⟩ := openK_of h
  rw [hk]
  simp [h]
 ·cases ho : openK l with
  | none => simp [h]
  | some kids => exact absurd (openK_some ho).1 h
theorem exact_uniq {l : List PI} {lo hi : Nat → Int} {d : List IV} (h : Exact l lo hi d) {e : List RG} (he : e.length = l.length) (hs : ∀ x, Sol (netT l) lo hi x → ∀ j, j < l.length → lo9 e j ≤ x j ∧ x j ≤ hi9 e j)
  (hv : Vol l.length (lo9 e) (hi9 e)) (hh : ∀ j, j < l.length → ∀ v, lo9 e j ≤ v → v ≤ hi9 e j → ∃ x, Sol (netT l) lo hi x ∧ x j = v) : e = d.map toR := by
 apply rr_ext (by rw [he, List.length_map, h.len])
 intro j hj
 rw [he] at hj
 have hd := h.rng j hj
 have hvj := hv j hj
 obtain ⟨x1, s1, e1⟩ := h.had j hj (Lo d j) (by omega) (by omega)
 obtain ⟨x2, s2, e2⟩ := h.had j hj (Hi d j) (by omega) (by omega)
 obtain ⟨x3, s3, e3⟩ := hh j hj (lo9 e j) (by omega) (by omega)
 obtain ⟨x4, s4, e4⟩ := hh j hj (hi9 e j) (by omega) (by omega)
 have a1 := hs x1 s1 j hj
 have a2 := hs x2 s2 j hj
 have a3 := h.sol x3 s3 j hj
 have a4 := h.sol x4 s4 j hj
 rw [rr_toR]
 have b1 : (rr e j).f0 = (rv d j).f0 := by unfold lo9 at *; unfold Lo at *; unfold hi9 at *; unfold Hi at *; omega
 have b2 : (rr e j).f1 = (rv d j).f1 := by unfold lo9 at *; unfold Lo at *; unfold hi9 at *; unfold Hi at *; omega
 unfold toR
 rw [← b1, ← b2]
section
variable {l : List PI} {kids : List (List Int)}
theorem ref_bounds (hok : okL l) (hn : l.length ≤ 200) (hk : ∀ j, j < l.length → rdK kids j = (kidsAt l l.length j).map Int.ofNat) {r : List RG} (hr : r.length = l.length) (hv : Vol l.length (lo9 r) (hi9 r)) :
  ((boundsF l kids (r.map toI)).1 = false ∧ (¬ ∃ x, Sol (netT l) (lo9 r) (hi9 r) x) ∧ Ev (fun k => cohousingref28_bounds.f k l r) ([], false)) ∨
  ((boundsF l kids (r.map toI)).1 = true ∧ Exact l (lo9 r) (hi9 r) (boundsF l kids (r.map toI)).2 ∧ Ev (fun k => cohousingref28_bounds.f k l r) ((boundsF l kids (r.map toI)).2.map toR, true)) := by
 have hb := boundsF_spec hok hn hk (r := r.map toI) (by rw [List.length_map, hr]) (by rw [Lo_map, Hi_map]; exact hv)
 rw [Lo_map, Hi_map] at hb
 have href := bounds_l0 hok hn (wide l.length r) r rfl hr hv
 rcases hb with ⟨b1, b2⟩ | ⟨b1, b2⟩
 ·refine .inl ⟨b1, b2, ?_⟩
  rcases href with ⟨h1, _⟩ | ⟨d, h1, h2, h3, h4⟩
  ·exact h1
  ·exfalso
   by_cases hz : 0 < l.length
   ·obtain ⟨x, hx, _⟩ := exact (netT l) (netT_ok hok) (lo9 d) (hi9 d) (lo9 d) (hi9 d) (fun i hi => (h3 i hi).2.1) (fun i hi hne => (h4 i hi hne).1) (fun i hi => ⟨Int.le_refl _, (h3 i hi).2.1, Int.le_refl _⟩)
     (fun i hi k hk' => (h4 i hi (fun hh => by simp only [netT] at hk'; rw [hh] at hk'; cases hk')).2 k hk') 0 hz (lo9 d 0) (Int.le_refl _) (h3 0 hz).2.1
    exact b2 ⟨x, fun i hi => by have := hx.1 i hi; have := h2.rng i hi; omega, hx.2⟩
   ·exact b2 ⟨fun _ => 0, fun i hi => absurd hi (by simp only [netT]; omega), fun i hi => absurd hi (by simp only [netT]; omega)⟩
 ·refine .inr ⟨b1, b2, ?_⟩
  rcases href with ⟨_, h2⟩ | ⟨d, h1, h2, h3, h4⟩
  ·exfalso
   by_cases hz : 0 < l.length
   ·obtain ⟨x, hx, _⟩ := b2.had 0 hz (Lo _ 0) (Int.le_refl _) (b2.rng 0 hz).2.1
    exact h2 ⟨x, hx⟩
   ·exact h2 ⟨fun _ => 0, fun i hi => absurd hi (by simp only [netT]; omega), fun i hi => absurd hi (by simp only [netT]; omega)⟩
  ·have e := exact_uniq b2 (e := d) h2.len (fun x hx => (h2.sol x hx).1) h3 (fun j hj v hv1 hv2 => by
    obtain ⟨x, hx, hxv⟩ := exact (netT l) (netT_ok hok) (lo9 d) (hi9 d) (lo9 d) (hi9 d) (fun i hi => (h3 i hi).2.1) (fun i hi hne => (h4 i hi hne).1) (fun i hi => ⟨Int.le_refl _, (h3 i hi).2.1, Int.le_refl _⟩)
     (fun i hi k hk' => (h4 i hi (fun hh => by simp only [netT] at hk'; rw [hh] at hk'; cases hk')).2 k hk') j hj v hv1 hv2
    exact ⟨x, ⟨fun i hi => by have := hx.1 i hi; have := h2.rng i hi; omega, hx.2⟩, hxv⟩)
   rw [← e]
   exact h1
end
inductive BoundsIs (l : List PI) (r : List RG) : List RG × Int → Prop
 | arg : ¬ Good l r → BoundsIs l r ([], 1)
 | flow : Good l r → (¬ ∃ x, Sol (netT l) (lo9 r) (hi9 r) x) → BoundsIs l r ([], 30)
 | ok (d : List IV) : Good l r → Exact l (lo9 r) (hi9 r) d → BoundsIs l r (d.map toR, 0)
theorem boundsR_is (l : List PI) (r : List RG) : BoundsIs l r (boundsR l r) := by
 unfold boundsR
 by_cases hg : Good l r
 ·obtain ⟨kids, h1, h2⟩ := netOk_some hg.ok hg.n
  rw [h1]
  simp only []
  rw [if_pos ((good_iff l r).1 hg).2]
  rcases ref_bounds hg.ok hg.n h2 hg.len hg.vol with ⟨b1, b2, _⟩ | ⟨b1, b2, _⟩
  ·rw [if_neg (by rw [b1]; decide)]
   exact .flow hg b2
  ·rw [if_pos b1]
   exact .ok _ hg b2
 ·have hno := fun h => hg ((good_iff l r).2 h)
  by_cases hv : okL l ∧ l.length ≤ 200
  ·obtain ⟨kids, h1, h2⟩ := netOk_some hv.1 hv.2
   rw [h1]
   simp only []
   rw [if_neg (fun h => hno ⟨hv, h⟩)]
   exact .arg hg
  ·rw [netOk_none hv]
   exact .arg hg
end Go.Proofs.Ytmojlpafpeeelaa.P
end
section
namespace Go.Proofs.Ytmojlpafpeeelaa.P
open Go.RowKit Go.Proofs.YtmojlpafpeeelaaW.PrintWords Go.Proofs.YtmojlpafpeeelaaW.PrintLast Go.Proofs.YtmojlpafpeeelaaW.PrintMore Go.Proofs.YtmojlpafpeeelaaH Go.Proofs.FlowTree
open Classical
abbrev fx (x : List Int) (j : Nat) : Int := rd x (j : Int)
theorem okIn_iff (r : List RG) (x : List Int) (i : Nat) : okIn r x i = true ↔ lo9 r i ≤ fx x i ∧ fx x i ≤ hi9 r i := by
 unfold okIn lo9 hi9 fx rr
 simp only [Bool.and_eq_true, Bool.not_eq_true', decide_eq_false_iff_not]
 omega
theorem mk_map (x : List Int) (j : Nat) : (rv (x.map mkI) j).f0 = fx x j := by
 simp only [rv, rd_T59, fx, rd, Int.toNat_natCast, List.getD_eq_getElem?_getD, List.getElem?_map]
 cases x[j]? <;> rfl
section
variable {l : List PI} {kids : List (List Int)}
theorem lost_eq (hn : l.length ≤ 200) (hk : ∀ j, j < l.length → rdK kids j = (kidsAt l l.length j).map Int.ofNat) {x : List Int} (hx : ∀ j, j < l.length → 0 ≤ fx x j ∧ fx x j ≤ 1000000000) {i : Nat} (hi : i < l.length) :
  (belowI kids (x.map mkI) i).length = (kidsAt l l.length i).length ∧ lostI kids x i = fx x i - sm (fx x) (kidsAt l l.length i) := by
 have hkm : ∀ k ∈ kidsAt l l.length i, k < l.length := fun k hk' => (kidsAt_mem.1 hk').1
 have hbl := kids_len l i
 have hb := sm_bound (f := fx x) (ks := kidsAt l l.length i) (a := 0) (b := 1000000000) (fun k hk' => hx k (hkm k hk'))
 have hxi := hx i hi
 unfold lostI
 rw [below_eq hk _ i hi, List.length_map]
 refine ⟨rfl, ?_⟩
 rw [total_eq _ _ _ (by omega) (fun k hk' => by rw [mk_map]; exact hx k (hkm k hk'))]
 rw [sm_congr (f := fun k => (rv (x.map mkI) k).f0) (g := fx x) (fun k _ => mk_map x k)]
 show wrap64 (fx x i - sm (fx x) (kidsAt l l.length i)) = _
 exact wrap_id (by omega) (by omega)
theorem okEq_iff (hn : l.length ≤ 200) (hk : ∀ j, j < l.length → rdK kids j = (kidsAt l l.length j).map Int.ofNat) {x : List Int} (hx : ∀ j, j < l.length → 0 ≤ fx x j ∧ fx x j ≤ 1000000000) {i : Nat} (hi : i < l.length) :
  okEq l kids x i = true ↔ (netT l).eq (fx x) i := by
 have h := lost_eq hn hk hx hi
 unfold okEq Net.eq
 rw [h.1, h.2]
 simp only [netT, Bool.or_eq_true, Bool.and_eq_true, Bool.not_eq_true', decide_eq_true_eq, decide_eq_false_iff_not]
 constructor
 ·rintro (h1 | h1) hne
  ·exact absurd (List.length_eq_zero_iff.1 h1) hne
  ·unfold loP; omega
 ·intro h1
  by_cases hne : kidsAt l l.length i = []
  ·exact .inl (by rw [hne]; rfl)
  ·have := h1 hne
   unfold loP at this
   exact .inr (by omega)
theorem cons_sol {r : List RG} (hg : Good l r) (hk : ∀ j, j < l.length → rdK kids j = (kidsAt l l.length j).map Int.ofNat) (x : List Int) :
  ((List.range l.length).all (okIn r x) && (List.range l.length).all (okEq l kids x)) = decide (Sol (netT l) (lo9 r) (hi9 r) (fx x)) := by
 by_cases hin : ∀ i, i < l.length → lo9 r i ≤ fx x i ∧ fx x i ≤ hi9 r i
 ·have hx : ∀ j, j < l.length → 0 ≤ fx x j ∧ fx x j ≤ 1000000000 := fun j hj => by have := hin j hj; have := hg.vol j hj; omega
  rw [all_true (fun i hi => (okIn_iff r x i).2 (hin i hi)), Bool.true_and]
  by_cases heq : ∀ i, i < l.length → (netT l).eq (fx x) i
  ·rw [all_true (fun i hi => (okEq_iff hg.n hk hx hi).2 (heq i hi)), decide_eq_true ⟨hin, heq⟩]
  ·rw [decide_eq_false (fun h => heq h.2)]
   have hex : ∃ i, i < l.length ∧ ¬ (netT l).eq (fx x) i := by
    apply Classical.byContradiction
    intro hc
    exact heq (fun i hi => Classical.byContradiction (fun h => hc ⟨i, hi, h⟩))
   obtain ⟨i, hi, hne⟩ := hex
   exact all_false hi (by rw [Bool.eq_false_iff]; exact fun h => hne ((okEq_iff hg.n hk hx hi).1 h))
 ·rw [decide_eq_false (fun h => hin h.1)]
  have hex : ∃ i, i < l.length ∧ ¬ (lo9 r i ≤ fx x i ∧ fx x i ≤ hi9 r i) := by
   apply Classical.byContradiction
   intro hc
   exact hin (fun i hi => Classical.byContradiction (fun h => hc ⟨i, hi, h⟩))
  obtain ⟨i, hi, hne⟩ := hex
  rw [all_false hi (by rw [Bool.eq_false_iff]; exact fun h => hne ((okIn_iff r x i).1 h)), Bool.false_and]
end
theorem consR_is (l : List PI) (r : List RG) (x : List Int) : consR l r x = if Good l r ∧ x.length = l.length then (decide (Sol (netT l) (lo9 r) (hi9 r) (fx x)), 0) else (false, 1) := by
 unfold consR
 by_cases hg : Good l r
 ·obtain ⟨kids, h1, h2⟩ := netOk_some hg.ok hg.n
  rw [h1]
  simp only []
  rw [if_pos ((good_iff l r).1 hg).2]
  by_cases hx : x.length = l.length
  ·rw [if_pos hx, if_pos ⟨hg, hx⟩, cons_sol hg h2]
  ·rw [if_neg hx, if_neg (fun h => hx h.2)]
 ·rw [if_neg (fun h => hg h.1)]
  have hno := fun h => hg ((good_iff l r).2 h)
  by_cases hv : okL l ∧ l.length ≤ 200
  ·obtain ⟨kids, h1, h2⟩ := netOk_some hv.1 hv.2
   rw [h1]
   simp only []
   rw [if_neg (fun h => hno ⟨hv, h⟩)]
  ·rw [netOk_none hv]
section
variable {l : List PI} {r : List RG} {x : List Int}
end
end Go.Proofs.Ytmojlpafpeeelaa.P
end
section
namespace Go.Proofs.Ytmojlpafpeeelaa.P
open Go.RowKit Go.Proofs.YtmojlpafpeeelaaW.PrintWords Go.Proofs.YtmojlpafpeeelaaW.PrintLast Go.Proofs.YtmojlpafpeeelaaW.PrintMore Go.Proofs.YtmojlpafpeeelaaH Go.Proofs.FlowTree
open Classical
theorem fx_set (x : List Int) (k j : Nat) (v : Int) (h : k < x.length) : fx (x.set k v) j = if k = j then v else fx x j := by
 simp only [fx, rd, List.getD_eq_getElem?_getD, Int.toNat_natCast, List.getElem?_set]
 by_cases e : k = j
 ·subst e; simp [h]
 ·simp [e]
theorem Lo_set (r : List IV) (k j : Nat) (y : IV) (h : k < r.length) : Lo (r.set k y) j = if k = j then y.f0 else Lo r j := by
 unfold Lo; rw [rv_set r k j y h]; split <;> rfl
theorem Hi_set (r : List IV) (k j : Nat) (y : IV) (h : k < r.length) : Hi (r.set k y) j = if k = j then y.f1 else Hi r j := by
 unfold Hi; rw [rv_set r k j y h]; split <;> rfl
section
variable {l : List PI} {kids : List (List Int)}
def Tight (l : List PI) (q : List IV) : Prop := Exact l (Lo q) (Hi q) q
theorem exact_tight {lo hi : Nat → Int} {d : List IV} (h : Exact l lo hi d) : Tight l d ∧ ∀ y, Sol (netT l) (Lo d) (Hi d) y ↔ Sol (netT l) lo hi y := by
 have key : ∀ y, Sol (netT l) (Lo d) (Hi d) y ↔ Sol (netT l) lo hi y := fun y =>
  ⟨fun hy => ⟨fun i hi => by have := hy.1 i hi; have := h.rng i hi; omega, hy.2⟩, fun hy => ⟨fun i hi => h.sol y hy i hi, hy.2⟩⟩
 refine ⟨⟨h.len, fun j hj => ?_, fun x hx j hj => hx.1 j hj, fun j hj v h1 h2 => ?_⟩, key⟩
 ·have := h.rng j hj
  exact ⟨this.1, this.2.1, this.2.2.1, Int.le_refl _, Int.le_refl _⟩
 ·obtain ⟨x, hx, e⟩ := h.had j hj v h1 h2
  exact ⟨x, (key x).2 hx, e⟩
theorem fixed (hok : okL l) (hn : l.length ≤ 200) (hk : ∀ j, j < l.length → rdK kids j = (kidsAt l l.length j).map Int.ofNat) {q : List IV} (hq : q.length = l.length) (hv : Vol l.length (Lo q) (Hi q)) {k : Nat} (hkl : k < l.length) {v : Int}
  (hr : Lo q k ≤ v ∧ v ≤ Hi q k) (hs : ∃ x, Sol (netT l) (Lo q) (Hi q) x ∧ x k = v) :
  (boundsF l kids (q.set k ⟨v, v⟩)).1 = true ∧ Tight l (boundsF l kids (q.set k ⟨v, v⟩)).2 ∧ ∀ y, Sol (netT l) (Lo (boundsF l kids (q.set k ⟨v, v⟩)).2) (Hi (boundsF l kids (q.set k ⟨v, v⟩)).2) y ↔ Sol (netT l) (Lo q) (Hi q) y ∧ y k = v := by
 have hkq : k < q.length := by omega
 have hset : ∀ j, Lo (q.set k ⟨v, v⟩) j = (if k = j then v else Lo q j) ∧ Hi (q.set k ⟨v, v⟩) j = (if k = j then v else Hi q j) := fun j => ⟨Lo_set q k j _ hkq, Hi_set q k j _ hkq⟩
 have hsol : ∀ y, Sol (netT l) (Lo (q.set k ⟨v, v⟩)) (Hi (q.set k ⟨v, v⟩)) y ↔ Sol (netT l) (Lo q) (Hi q) y ∧ y k = v := by
  intro y
  constructor
  ·intro hy
   have hyk := hy.1 k hkl
   rw [(hset k).1, (hset k).2, if_pos rfl, if_pos rfl] at hyk
   refine ⟨⟨fun i hi => ?_, hy.2⟩, by omega⟩
   have := hy.1 i hi
   rw [(hset i).1, (hset i).2] at this
   by_cases e : k = i
   ·subst e; omega
   ·rw [if_neg e, if_neg e] at this; exact this
  ·rintro ⟨hy, e⟩
   refine ⟨fun i hi => ?_, hy.2⟩
   rw [(hset i).1, (hset i).2]
   by_cases e' : k = i
   ·subst e'; rw [if_pos rfl, if_pos rfl]; omega
   ·rw [if_neg e', if_neg e']; exact hy.1 i hi
 have hvol : Vol l.length (Lo (q.set k ⟨v, v⟩)) (Hi (q.set k ⟨v, v⟩)) := fun i hi => by
  rw [(hset i).1, (hset i).2]
  have := hv i hi
  by_cases e : k = i
  ·subst e; rw [if_pos rfl, if_pos rfl]; omega
  ·rw [if_neg e, if_neg e]; exact this
 rcases boundsF_spec hok hn hk (r := q.set k ⟨v, v⟩) (by rw [List.length_set, hq]) hvol with ⟨_, b2⟩ | ⟨b1, b2⟩
 ·obtain ⟨x, hx, e⟩ := hs
  exact absurd ⟨x, (hsol x).2 ⟨hx, e⟩⟩ b2
 ·have := exact_tight b2
  exact ⟨b1, this.1, fun y => (this.2 y).trans (hsol y)⟩
structure StateAt (l : List PI) (b : List IV) (m : Nat) (p : List Int × List IV) : Prop where
 len : p.1.length = l.length
 tight : Tight l p.2
 sol : ∀ y, Sol (netT l) (Lo p.2) (Hi p.2) y ↔ Sol (netT l) (Lo b) (Hi b) y ∧ ∀ j, j < m → y j = fx p.1 j
 first : ∀ y, Sol (netT l) (Lo b) (Hi b) y → (∀ j, j < m → y j = fx p.1 j) ∨ ∃ j, j < m ∧ fx p.1 j < y j ∧ ∀ i, i < j → y i = fx p.1 i
theorem state_at (hok : okL l) (hn : l.length ≤ 200) (hk : ∀ j, j < l.length → rdK kids j = (kidsAt l l.length j).map Int.ofNat) {b : List IV} (hb : Tight l b) : ∀ m, m ≤ l.length → StateAt l b m (stateFold l kids b m) := by
 intro m
 induction m with
 | zero => intro _; exact ⟨by simp [stateFold], hb, fun y => ⟨fun h => ⟨h, fun j hj => absurd hj (Nat.not_lt_zero _)⟩, fun h => h.1⟩, fun y _ => .inl (fun j hj => absurd hj (Nat.not_lt_zero _))⟩
 | succ m ih =>
  intro hm
  have h := ih (by omega)
  rw [stateFold_succ]
  obtain ⟨p, hp⟩ : ∃ p, p = stateFold l kids b m := ⟨_, rfl⟩
  rw [← hp] at h ⊢
  have hmp : m < p.1.length := by rw [h.len]; omega
  have hrm := h.tight.rng m (by omega)
  have hhad := h.tight.had m (by omega) (Lo p.2 m) (Int.le_refl _) (by omega)
  have hf := fixed hok hn hk h.tight.len (fun i hi => by have := h.tight.rng i hi; omega) (show m < l.length by omega) (v := Lo p.2 m) (by omega) hhad
  have hset : ∀ j, fx (p.1.set m (Lo p.2 m)) j = if m = j then Lo p.2 m else fx p.1 j := fun j => fx_set p.1 m j _ hmp
  have hstep : stateStep l kids p m = (p.1.set m (Lo p.2 m), (boundsF l kids (p.2.set m ⟨Lo p.2 m, Lo p.2 m⟩)).2) := rfl
  rw [hstep]
  refine ⟨by rw [List.length_set]; exact h.len, hf.2.1, fun y => ?_, fun y hy => ?_⟩
  ·rw [hf.2.2 y, h.sol y]
   constructor
   ·rintro ⟨⟨h1, h2⟩, h3⟩
    refine ⟨h1, fun j hj => ?_⟩
    show y j = fx (p.1.set m (Lo p.2 m)) j
    rw [hset]
    by_cases e : m = j
    ·subst e; rw [if_pos rfl]; exact h3
    ·rw [if_neg e]; exact h2 j (by omega)
   ·rintro ⟨h1, h2⟩
    refine ⟨⟨h1, fun j hj => ?_⟩, ?_⟩
    ·have : y j = fx (p.1.set m (Lo p.2 m)) j := h2 j (by omega)
     rw [hset, if_neg (by omega)] at this
     exact this
    ·have : y m = fx (p.1.set m (Lo p.2 m)) m := h2 m (by omega)
     rw [hset, if_pos rfl] at this
     exact this
  ·show (∀ j, j < m + 1 → y j = fx (p.1.set m (Lo p.2 m)) j) ∨ ∃ j, j < m + 1 ∧ fx (p.1.set m (Lo p.2 m)) j < y j ∧ ∀ i, i < j → y i = fx (p.1.set m (Lo p.2 m)) i
   rcases h.first y hy with h1 | ⟨j, hj, h2, h3⟩
   ·have hy2 := (h.sol y).2 ⟨hy, h1⟩
    have hym := hy2.1 m (by simp only [netT]; omega)
    by_cases e : y m = Lo p.2 m
    ·refine .inl (fun j hj => ?_)
     rw [hset]
     by_cases e' : m = j
     ·subst e'; rw [if_pos rfl]; exact e
     ·rw [if_neg e']; exact h1 j (by omega)
    ·refine .inr ⟨m, by omega, ?_, fun i hi => ?_⟩
     ·rw [hset, if_pos rfl]; omega
     ·rw [hset, if_neg (by omega)]; exact h1 i hi
   ·refine .inr ⟨j, by omega, ?_, fun i hi => ?_⟩
    ·rw [hset, if_neg (by omega)]; exact h2
    ·rw [hset, if_neg (by omega)]; exact h3 i hi
end
inductive StateIs (l : List PI) (r : List RG) (i v : Int) : List Int × Int → Prop
 | arg : ¬ (Good l r ∧ 0 ≤ i ∧ i < (l.length : Int)) → StateIs l r i v ([], 1)
 | flow : Good l r → 0 ≤ i → i < (l.length : Int) → (¬ ∃ x, Sol (netT l) (lo9 r) (hi9 r) x ∧ x i.toNat = v) → StateIs l r i v ([], 30)
 | ok (x : List Int) : Good l r → 0 ≤ i → i < (l.length : Int) → x.length = l.length → Sol (netT l) (lo9 r) (hi9 r) (fx x) → fx x i.toNat = v →
   (∀ y, Sol (netT l) (lo9 r) (hi9 r) y → y i.toNat = v → (∀ j, j < l.length → y j = fx x j) ∨ ∃ j, j < l.length ∧ fx x j < y j ∧ ∀ k, k < j → y k = fx x k) → StateIs l r i v (x, 0)
theorem set_one (r : List RG) (n : Nat) (v : Int) : (r.set n ⟨v, v⟩).map toI = (r.map toI).set n ⟨v, v⟩ := by rw [List.map_set]; rfl
theorem with_f (r : List RG) (n : Nat) (v : Int) (h : n < r.length) (hl : r.length ≤ 200) : cohousingref28_with.f r (n : Int) v = some (r.set n ⟨v, v⟩) := by
 unfold cohousingref28_with.f
 have h1 : ([] : List RG).length + r.length < 8796093022208 := by simp; omega
 have h2 : (0 : Int) ≤ (n : Int) := by omega
 have h3 : ((n : Int) < (r.length : Int)) := by omega
 simp only [Option.bind_some, h1, if_true, List.nil_append, h2, h3, Int.toNat_natCast]
section
variable {l : List PI} {kids : List (List Int)}
theorem ref_state_l0 (hok : okL l) (hn : l.length ≤ 200) (hk : ∀ j, j < l.length → rdK kids j = (kidsAt l l.length j).map Int.ofNat) {b : List IV} (hb : Tight l b) : ∀ (d m : Nat), m + d = l.length →
  Ev (fun k => cohousingref28_State.l0 k l ((stateFold l kids b m).2.map toR) ((stateFold l kids b m).1.take m) (m : Int)) ((stateFold l kids b l.length).1, 0) := by
 intro d
 induction d with
 | zero =>
  intro m hm
  have h1 : ¬ ((m : Int) < (l.length : Int)) := by omega
  refine Ev.step ?_
  simp only [cohousingref28_State.l0, h1, if_false]
  have e : m = l.length := by omega
  subst e
  rw [List.take_of_length_le (by rw [(state_at hok hn hk hb l.length (Nat.le_refl _)).len]; exact Nat.le_refl _)]
  exact Ev.pure _
 | succ d ih =>
  intro m hm
  have hs := state_at hok hn hk hb m (by omega)
  have hrec := ih (m + 1) (by omega)
  rw [stateFold_succ] at hrec
  obtain ⟨p, hp⟩ : ∃ p, p = stateFold l kids b m := ⟨_, rfl⟩
  rw [← hp] at hs hrec ⊢
  have hp2 : p.2.length = l.length := hs.tight.len
  have hrm := hs.tight.rng m (by omega)
  have h1 : ((m : Int) < (l.length : Int)) := by omega
  have h2 : (0 : Int) ≤ (m : Int) := by omega
  have h3 : ((m : Int) < ((p.2.map toR).length : Int)) := by rw [List.length_map]; omega
  have h4 : (p.1.take m).length < 17592186044416 := by rw [List.length_take]; omega
  have hlo : (rd_T39 (p.2.map toR) (m : Int)).f0 = Lo p.2 m := congrFun (lo_map p.2) m
  have hw := with_f (p.2.map toR) m (Lo p.2 m) (by rw [List.length_map]; omega) (by rw [List.length_map]; omega)
  have hf := fixed hok hn hk hs.tight.len (fun i hi => by have := hs.tight.rng i hi; omega) (show m < l.length by omega) (v := Lo p.2 m) (by omega) (hs.tight.had m (by omega) (Lo p.2 m) (Int.le_refl _) (by omega))
  have hmap : ((p.2.map toR).set m ⟨Lo p.2 m, Lo p.2 m⟩).map toI = p.2.set m ⟨Lo p.2 m, Lo p.2 m⟩ := by rw [set_one, toI_toR]
  have hvol : Vol l.length (lo9 ((p.2.map toR).set m ⟨Lo p.2 m, Lo p.2 m⟩)) (hi9 ((p.2.map toR).set m ⟨Lo p.2 m, Lo p.2 m⟩)) := fun i hi => by
   rw [← Lo_map, ← Hi_map, hmap, Lo_set _ _ _ _ (by omega), Hi_set _ _ _ _ (by omega)]
   have := hs.tight.rng i hi
   by_cases e : m = i
   ·subst e; rw [if_pos rfl, if_pos rfl]; dsimp only; omega
   ·rw [if_neg e, if_neg e]; omega
  have hrb := ref_bounds hok hn hk (r := (p.2.map toR).set m ⟨Lo p.2 m, Lo p.2 m⟩) (by rw [List.length_set, List.length_map, hp2]) hvol
  rw [hmap] at hrb
  rcases hrb with ⟨b1, _⟩ | ⟨b1, _, b3⟩
  ·rw [hf.1] at b1; cases b1
  ·refine Ev.step ?_
   simp only [cohousingref28_State.l0, h1, h2, h3, h4, if_true, hlo, Option.bind_some, hw, wrap_nat (show m ≤ 140737488355328 by omega)]
   refine Ev.bnd b3 ?_
   simp only [if_true]
   have hstep : stateStep l kids p m = (p.1.set m (Lo p.2 m), (boundsF l kids (p.2.set m ⟨Lo p.2 m, Lo p.2 m⟩)).2) := rfl
   rw [hstep] at hrec
   have htake : (p.1.set m (Lo p.2 m)).take (m + 1) = p.1.take m ++ [Lo p.2 m] := by
    rw [List.take_succ_eq_append_getElem (by rw [List.length_set, hs.len]; omega), List.take_set_of_le (Nat.le_refl _)]
    simp
   rw [htake] at hrec
   exact hrec
end
theorem stateR_is (l : List PI) (r : List RG) (i v : Int) : StateIs l r i v (stateR l r i v) ∧ (l.length ≤ 5864062014805 → r.length ≤ 140737488355328 → Ev (fun k => cohousingref28_State.f k l r i v) (stateR l r i v)) := by
 have hpre : ∀ R, (Good l r → Ev (fun k => if i < 0 then cohousingref28_State.j0 k l r i v true else cohousingref28_State.j0 k l r i v (decide (i ≥ (l.length : Int)))) R) → (¬ Good l r → R = ([], 1)) →
   l.length ≤ 5864062014805 → r.length ≤ 140737488355328 → Ev (fun k => cohousingref28_State.f k l r i v) R := by
  intro R h1 h2 hl hr
  have hbel : cohousingref28_Belongs.f l r = some (belongsB l.length r) := by unfold cohousingref28_Belongs.f; rw [if_pos ⟨by omega, hr⟩]
  unfold cohousingref28_State.f
  refine Ev.bnd (valid_f l (by omega)) ?_
  simp only [hbel, Option.bind_some]
  by_cases hg : Good l r
  ·rw [decide_eq_true ((good_iff l r).1 hg).1, ((good_iff l r).1 hg).2]
   simp only [if_true]
   exact h1 hg
  ·rw [h2 hg]
   have hj : Ev (fun k => cohousingref28_State.j0 k l r i v true) ([], 1) := by
    refine Ev.step ?_
    simp only [cohousingref28_State.j0, if_true]
    exact Ev.pure _
   by_cases hv : okL l ∧ l.length ≤ 200
   ·have hb : belongsB l.length r = false := by rw [Bool.eq_false_iff]; exact fun h => hg ((good_iff l r).2 ⟨hv, h⟩)
    rw [decide_eq_true hv, hb]
    simp only [if_true, Bool.false_eq_true, if_false]
    exact hj
   ·rw [decide_eq_false hv]
    simp only [Bool.false_eq_true, if_false]
    exact hj
 by_cases hg : Good l r
 case neg =>
  have e : stateR l r i v = ([], 1) := by
   unfold stateR
   have hno := fun h => hg ((good_iff l r).2 h)
   by_cases hv : okL l ∧ l.length ≤ 200
   ·obtain ⟨kids, h1, h2⟩ := netOk_some hv.1 hv.2
    rw [h1]
    simp only []
    rw [if_neg (fun h => hno ⟨hv, h⟩)]
   ·rw [netOk_none hv]
  rw [e]
  exact ⟨.arg (fun h => hg h.1), hpre _ (fun h => absurd h hg) (fun _ => rfl)⟩
 obtain ⟨kids, h1, h2⟩ := netOk_some hg.ok hg.n
 have hn := hg.n
 have e0 : stateR l r i v = (if i < 0 then ([], 1) else if (l.length : Int) ≤ i then ([], 1) else
   if emptyI (cutI (rd_T59 (r.map toI) i) v v) = true then ([], 30) else
   if (boundsF l kids ((r.map toI).set i.toNat (cutI (rd_T59 (r.map toI) i) v v))).1 = true then
    ((stateFold l kids (boundsF l kids ((r.map toI).set i.toNat (cutI (rd_T59 (r.map toI) i) v v))).2 l.length).1, 0) else ([], 30)) := by
  unfold stateR
  rw [h1]
  simp only []
  rw [if_pos ((good_iff l r).1 hg).2]
 rw [e0]
 by_cases hi0 : i < 0
 ·rw [if_pos hi0]
  refine ⟨.arg (fun h => by omega), hpre _ (fun _ => ?_) (fun h => absurd hg h)⟩
  simp only [hi0, if_true]
  refine Ev.step ?_
  simp only [cohousingref28_State.j0, if_true]
  exact Ev.pure _
 rw [if_neg hi0]
 by_cases hi1 : (l.length : Int) ≤ i
 ·rw [if_pos hi1]
  refine ⟨.arg (fun h => by omega), hpre _ (fun _ => ?_) (fun h => absurd hg h)⟩
  have hd : decide (i ≥ (l.length : Int)) = true := decide_eq_true hi1
  simp only [hi0, if_false, hd]
  refine Ev.step ?_
  simp only [cohousingref28_State.j0, if_true]
  exact Ev.pure _
 rw [if_neg hi1]
 obtain ⟨n, rfl⟩ : ∃ n : Nat, i = n := ⟨i.toNat, by omega⟩
 have hnl : n < l.length := by omega
 have hnr : n < r.length := by have := hg.len; omega
 have hvn := hg.vol n hnl
 rw [Int.toNat_natCast]
 have hd : decide ((n : Int) ≥ (l.length : Int)) = false := decide_eq_false hi1
 have hx0 : (rd_T59 (r.map toI) (n : Int)).f0 = lo9 r n := congrFun (Lo_map r) n
 have hx1 : (rd_T59 (r.map toI) (n : Int)).f1 = hi9 r n := congrFun (Hi_map r) n
 have w2 : (rd_T39 r (n : Int)).f0 = lo9 r n := rfl
 have w3 : (rd_T39 r (n : Int)).f1 = hi9 r n := rfl
 have g2 : (0 : Int) ≤ (n : Int) := by omega
 have g3 : ((n : Int) < (r.length : Int)) := by omega
 have hem : emptyI (cutI (rd_T59 (r.map toI) (n : Int)) v v) = decide (¬ (lo9 r n ≤ v ∧ v ≤ hi9 r n)) := by
  unfold emptyI
  rw [cutI_f0, cutI_f1, hx0, hx1]
  exact decide_eq_decide.2 (by omega)
 have hno : ∀ R, (∀ R', (Ev (fun k => cohousingref28_State.j1 k l r (n : Int) v (decide (¬ (lo9 r n ≤ v ∧ v ≤ hi9 r n)))) R' → R' = R → l.length ≤ 5864062014805 → r.length ≤ 140737488355328 → Ev (fun k => cohousingref28_State.f k l r (n : Int) v) R)) := by
  intro R R' hj hR
  subst hR
  refine hpre R' (fun _ => ?_) (fun h => absurd hg h)
  simp only [hi0, if_false, hd]
  refine Ev.step ?_
  simp only [cohousingref28_State.j0, Bool.false_eq_true, if_false, g2, g3, if_true, w2, w3]
  by_cases c : v < lo9 r n
  ·simp only [c, if_true]
   rw [decide_eq_true (show ¬ (lo9 r n ≤ v ∧ v ≤ hi9 r n) by omega)] at hj
   exact hj
  ·simp only [c, if_false]
   rw [show decide (v > hi9 r n) = decide (¬ (lo9 r n ≤ v ∧ v ≤ hi9 r n)) from decide_eq_decide.2 (by omega)]
   exact hj
 by_cases hin : lo9 r n ≤ v ∧ v ≤ hi9 r n
 case neg =>
  rw [if_pos (by rw [hem, decide_eq_true hin])]
  refine ⟨.flow hg g2 (by omega) ?_, hno _ _ ?_ rfl⟩
  ·rintro ⟨x, hx, e⟩
   have := hx.1 n hnl
   rw [Int.toNat_natCast] at e
   omega
  ·rw [decide_eq_true hin]
   refine Ev.step ?_
   simp only [cohousingref28_State.j1, if_true]
   exact Ev.pure _
 rw [if_neg (by rw [hem, decide_eq_false (fun h => h hin)]; decide)]
 have hcut : cutI (rd_T59 (r.map toI) (n : Int)) v v = ⟨v, v⟩ := by
  have a := cutI_f0 (rd_T59 (r.map toI) (n : Int)) v v
  have b := cutI_f1 (rd_T59 (r.map toI) (n : Int)) v v
  rw [hx0] at a
  rw [hx1] at b
  cases hc : cutI (rd_T59 (r.map toI) (n : Int)) v v with
  | mk c0 c1 =>
   rw [hc] at a b
   simp only at a b
   rw [a, b]
   congr 1 <;> omega
 rw [hcut]
 have hmap : (r.set n ⟨v, v⟩).map toI = (r.map toI).set n ⟨v, v⟩ := set_one r n v
 have hlen' : n < (r.map toI).length := by rw [List.length_map]; exact hnr
 have hvol : Vol l.length (lo9 (r.set n ⟨v, v⟩)) (hi9 (r.set n ⟨v, v⟩)) := fun j hj => by
  rw [← Lo_map, ← Hi_map, hmap, Lo_set _ _ _ _ hlen', Hi_set _ _ _ _ hlen', Lo_map, Hi_map]
  have := hg.vol j hj
  by_cases e : n = j
  ·subst e; rw [if_pos rfl, if_pos rfl]; dsimp only; omega
  ·rw [if_neg e, if_neg e]; exact this
 have hsol : ∀ y, Sol (netT l) (lo9 (r.set n ⟨v, v⟩)) (hi9 (r.set n ⟨v, v⟩)) y ↔ Sol (netT l) (lo9 r) (hi9 r) y ∧ y n = v := by
  intro y
  rw [← Lo_map (r.set n ⟨v, v⟩), ← Hi_map (r.set n ⟨v, v⟩), hmap]
  have hset : ∀ j, Lo ((r.map toI).set n ⟨v, v⟩) j = (if n = j then v else lo9 r j) ∧ Hi ((r.map toI).set n ⟨v, v⟩) j = (if n = j then v else hi9 r j) := fun j => by
   rw [Lo_set _ _ _ _ hlen', Hi_set _ _ _ _ hlen', Lo_map, Hi_map]; exact ⟨rfl, rfl⟩
  constructor
  ·intro hy
   have hyk := hy.1 n hnl
   rw [(hset n).1, (hset n).2, if_pos rfl, if_pos rfl] at hyk
   refine ⟨⟨fun j hj => ?_, hy.2⟩, by omega⟩
   have := hy.1 j hj
   rw [(hset j).1, (hset j).2] at this
   by_cases e : n = j
   ·subst e; omega
   ·rw [if_neg e, if_neg e] at this; exact this
  ·rintro ⟨hy, e⟩
   refine ⟨fun j hj => ?_, hy.2⟩
   rw [(hset j).1, (hset j).2]
   by_cases e' : n = j
   ·subst e'; rw [if_pos rfl, if_pos rfl]; omega
   ·rw [if_neg e', if_neg e']; exact hy.1 j hj
 have hrb := ref_bounds hg.ok hn h2 (r := r.set n ⟨v, v⟩) (by rw [List.length_set, hg.len]) hvol
 rw [hmap] at hrb
 have hw := with_f r n v hnr (by have := hg.len; omega)
 rcases hrb with ⟨b1, b2, b3⟩ | ⟨b1, b2, b3⟩
 ·rw [if_neg (by rw [b1]; decide)]
  refine ⟨.flow hg g2 (by omega) ?_, hno _ _ ?_ rfl⟩
  ·rintro ⟨x, hx, e⟩
   rw [Int.toNat_natCast] at e
   exact b2 ⟨x, (hsol x).2 ⟨hx, e⟩⟩
  ·rw [decide_eq_false (fun h => h hin)]
   refine Ev.step ?_
   simp only [cohousingref28_State.j1, Bool.false_eq_true, if_false, hw, Option.bind_some]
   refine Ev.bnd b3 ?_
   simp only [Bool.false_eq_true, if_false]
   exact Ev.pure _
 ·rw [if_pos b1]
  obtain ⟨b, hb⟩ : ∃ b, b = (boundsF l kids ((r.map toI).set n ⟨v, v⟩)).2 := ⟨_, rfl⟩
  rw [← hb] at b2 b3 ⊢
  have ht := exact_tight b2
  have hs := state_at hg.ok hn h2 ht.1 l.length (Nat.le_refl _)
  obtain ⟨p, hp⟩ : ∃ p, p = stateFold l kids b l.length := ⟨_, rfl⟩
  have hrec := ref_state_l0 hg.ok hn h2 ht.1 l.length 0 (by omega)
  rw [← hp] at hs hrec ⊢
  have hz : 0 < l.length := by omega
  obtain ⟨y, hy, _⟩ := hs.tight.had 0 hz (Lo p.2 0) (Int.le_refl _) (hs.tight.rng 0 hz).2.1
  have hy2 := (hs.sol y).1 hy
  have hy3 := (hsol y).1 ((ht.2 y).1 hy2.1)
  have hxsol : Sol (netT l) (lo9 r) (hi9 r) (fx p.1) := by
   refine ⟨fun j hj => ?_, fun j hj => ?_⟩
   ·rw [← hy2.2 j hj]; exact hy3.1.1 j hj
   ·exact eq_congr (x := y) (hy2.2 j hj) (fun k hk' => hy2.2 k ((netT_ok hg.ok).lt j k hk').2) (hy3.1.2 j hj)
  refine ⟨.ok p.1 hg g2 (by omega) hs.len hxsol ?_ ?_, hno _ _ ?_ rfl⟩
  ·rw [Int.toNat_natCast, ← hy2.2 n hnl]; exact hy3.2
  ·intro q hq hqv
   rw [Int.toNat_natCast] at hqv
   exact hs.first q ((ht.2 q).2 ((hsol q).2 ⟨hq, hqv⟩))
  ·rw [decide_eq_false (fun h => h hin)]
   refine Ev.step ?_
   simp only [cohousingref28_State.j1, Bool.false_eq_true, if_false, hw, Option.bind_some]
   refine Ev.bnd b3 ?_
   simp only [if_true]
   exact hrec
end Go.Proofs.Ytmojlpafpeeelaa.P
end
section
namespace Go.Proofs.Ytmojlpafpeeelaa.P
open Go.RowKit Go.Proofs.YtmojlpafpeeelaaW.PrintWords Go.Proofs.YtmojlpafpeeelaaW.PrintLast Go.Proofs.YtmojlpafpeeelaaW.PrintMore
attribute [local go_sem] max2_int min2_int max_two min_two max_three min_three max_four min_four
set_option linter.unusedVariables false
set_option linter.unusedSimpArgs false
def cohousinglaw28_right.f (l0 : List (S44)) (l1 : List (S39)) : Option (Bool) := if (l0.length : Int) ≤ 40 then ((flow_Valid.f l0).bind fun t352 => (if t352 = true then ((cohousingref28_Belongs.f l0 l1).bind fun t353 => (some t353)) else (some false))) else (some false)
set_option maxHeartbeats 8000000 in
set_option maxRecDepth 100000 in
theorem cohousinglaw28_right.calls (A0 : Option Addr) (c0 : Nat) (l0 : List (S44)) (A1 : Option Addr) (c1 : Nat) (l1 : List (S39)) (r : Bool) (w : World) (hr0 : Kd.C k44 w A0 l0.length l0) (hc0 : l0.length ≤ c0) (hr1 : Kd.C k39 w A1 l1.length l1) (hc1 : l1.length ≤ c1) (h : cohousinglaw28_right.f l0 l1 = some r) :
  Calls Try.prog 21 #[.slice A0 l0.length c0, .slice A1 l1.length c1] w fun e w' => e = .returned (.bool r) ∧ Below w.heap.size w w' := by
 have HR0 := Aside0.mk hr0
 have HC0 := Aside0.mk hc0
 clear hr0 hc0
 have HR1 := Aside0.mk hr1
 have HC1 := Aside0.mk hc1
 clear hr1 hc1
 have HB := Aside0.mk (Below.refl w.heap.size w)
 have H : (if (l0.length : Int) ≤ 40 then ((flow_Valid.f l0).bind fun t352 => (if t352 = true then ((cohousingref28_Belongs.f l0 l1).bind fun t353 => (some t353)) else (some false))) else (some false)) = some r := h
 clear h
 by_cases c3 : (l0.length : Int) ≤ 40
 ·rw [if_pos c3] at H
  have c3b0 : decide ((l0.length : Int) ≤ 40) = true := decide_eq_true c3
  have c3b1 : decide (l0.length ≤ 40) = true := decide_eq_true (by omega)
  clear c3
  replace H := Option.bind_eq_some_iff.mp H
  obtain ⟨t352, A40, H⟩ := H
  replace H : (if t352 = true then ((cohousingref28_Belongs.f l0 l1).bind fun t353 => (some t353)) else (some false)) = some r := H
  have A4 := Aside0.mk A40
  clear A40
  by_cases c5 : t352 = true
  ·subst c5
   have H1 : ((cohousingref28_Belongs.f l0 l1).bind fun t353 => (some t353)) = some r := by rw [if_pos rfl] at H; exact H
   clear H
   have H := H1
   clear H1
   replace H := Option.bind_eq_some_iff.mp H
   obtain ⟨t353, A60, H⟩ := H
   replace H : (some t353) = some r := H
   have A6 := Aside0.mk A60
   clear A60
   obtain rfl := Option.some.inj H
   go_enter Try.func21, Try.ntmps21
   go_wp2_with (first | (go_at_call 13; (with_reducible refine (flow_Valid.calls _ _ l0 true _ ?side1 ?side2 A4.out).mono ?_); (case side1 => repeat (first | exact HR0.out | (with_reducible refine Kd.C_alloc ?_ _) | (with_reducible refine Kd.C_drewN ?_ _) | (with_reducible refine Kd.C_drew ?_))); (case side2 => exact HC0.out); rintro e w7 ⟨rfl, hb⟩; have n0_ := Aside0.mk (below_step (by repeat (first | (with_reducible first | exact HB.out | apply below_alloc | apply pw_below_drewN | apply below_drew1) | exact HB.out)) hb); clear HB; have HB := n0_; clear n0_; (try clear hb); (try clear hb2); (try clear hk); (try clear hi)) | (go_at_call 29; (with_reducible refine (cohousingref28_Belongs.calls _ _ l0 _ _ l1 t353 _ ?side1 ?side2 ?side3 ?side4 A6.out).mono ?_); (case side1 => repeat (first | exact (Kd.C_below HR0.out HB.out) | (with_reducible refine Kd.C_alloc ?_ _) | (with_reducible refine Kd.C_drewN ?_ _) | (with_reducible refine Kd.C_drew ?_))); (case side2 => exact HC0.out); (case side3 => repeat (first | exact (Kd.C_below HR1.out HB.out) | (with_reducible refine Kd.C_alloc ?_ _) | (with_reducible refine Kd.C_drewN ?_ _) | (with_reducible refine Kd.C_drew ?_))); (case side4 => exact HC1.out); rintro e w8 ⟨rfl, hb⟩; have n0_ := Aside0.mk (below_step (by repeat (first | (with_reducible first | exact HB.out | apply below_alloc | apply pw_below_drewN | apply below_drew1) | exact HB.out)) hb); clear HB; have HB := n0_; clear n0_; (try clear hb); (try clear hb2); (try clear hk); (try clear hi)))
   go_ret
   exact ⟨by first | rfl | (simp [errW_none, errW_some] <;> rfl) | (simp [*, errW_none, errW_some] <;> rfl), by repeat (first | (with_reducible first | exact HB.out | apply below_alloc | apply pw_below_drewN | apply below_drew1) | exact HB.out)⟩
  ·replace c5 := Bool.eq_false_iff.mpr c5
   subst c5
   have H1 : (some false) = some r := by rw [if_neg (show ¬ (false = true) by decide)] at H; exact H
   clear H
   have H := H1
   clear H1
   obtain rfl := Option.some.inj H
   go_enter Try.func21, Try.ntmps21
   go_wp2_with (first | (go_at_call 13; (with_reducible refine (flow_Valid.calls _ _ l0 false _ ?side1 ?side2 A4.out).mono ?_); (case side1 => repeat (first | exact HR0.out | (with_reducible refine Kd.C_alloc ?_ _) | (with_reducible refine Kd.C_drewN ?_ _) | (with_reducible refine Kd.C_drew ?_))); (case side2 => exact HC0.out); rintro e w9 ⟨rfl, hb⟩; have n0_ := Aside0.mk (below_step (by repeat (first | (with_reducible first | exact HB.out | apply below_alloc | apply pw_below_drewN | apply below_drew1) | exact HB.out)) hb); clear HB; have HB := n0_; clear n0_; (try clear hb); (try clear hb2); (try clear hk); (try clear hi)))
   go_ret
   exact ⟨by first | rfl | (simp [errW_none, errW_some] <;> rfl) | (simp [*, errW_none, errW_some] <;> rfl), by repeat (first | (with_reducible first | exact HB.out | apply below_alloc | apply pw_below_drewN | apply below_drew1) | exact HB.out)⟩
 ·rw [if_neg c3] at H
  have c3b0 : decide ((l0.length : Int) ≤ 40) = false := decide_eq_false c3
  have c3b1 : decide (l0.length ≤ 40) = false := decide_eq_false (by omega)
  clear c3
  obtain rfl := Option.some.inj H
  go_enter Try.func21, Try.ntmps21
  go_wp2
  go_ret
  exact ⟨by first | rfl | (simp [errW_none, errW_some] <;> rfl) | (simp [*, errW_none, errW_some] <;> rfl), by repeat (first | (with_reducible first | exact HB.out | apply below_alloc | apply pw_below_drewN | apply below_drew1) | exact HB.out)⟩
end Go.Proofs.Ytmojlpafpeeelaa.P
end
section
namespace Go.Proofs.YtmojlpafpeeelaaH
open Go.RowKit Go.ChangeShapes Go.WideShapes Go.Proofs.YtmojlpafpeeelaaW.PrintWords
def Opens {α : Type} (P : Program) (d : Kd α) (t : TypeId) : Prop :=
 ∀ {H : Type} {enc : TypeId × Value → H} {w : World} {base : Nat} {spare : Nat → Bool} {held : Bool} {fuel : Nat} {cs : List Value} {x : DataW H × List MemPlace}, DataW.trod enc P w base spare held fuel t cs = some x → ∃ a : α, d.K w a cs
theorem Opens.int {P : Program} {t : TypeId} {k : IntKind} (h : P.underlying t = some (.int k)) : Opens P (Kd.int k) t := by
 intro H enc w base spare held fuel cs x hx
 obtain ⟨n, rfl, _, _⟩ := DataW.trod_int h hx
 exact ⟨n, rfl⟩
theorem Opens.iso {α β : Type} {P : Program} {d : Kd α} {t : TypeId} (f : β → α) (g : α → β) (hfg : ∀ a, f (g a) = a) (h : Opens P d t) : Opens P (Kd.iso d f) t := by
 intro H enc w base spare held fuel cs x hx
 obtain ⟨a, ha⟩ := h hx
 refine ⟨g a, ?_⟩
 show d.K w (f (g a)) cs
 rw [hfg]
 exact ha
def Segs {β : Type} (P : Program) (d : Kd β) (fs : List Field) (o z : Nat) : Prop :=
 ∀ {H : Type} {enc : TypeId × Value → H} {w : World} {base : Nat} {spare : Nat → Bool} {held : Bool} {fuel : Nat} {cs : List Value}, cs.length = z →
  (∀ f ∈ fs, ∃ x : DataW H × List MemPlace, DataW.trod enc P w base spare held fuel f.type ((cs.drop f.offset).take (P.cellsOf f.type)) = some x) → ∃ b : β, d.K w b (cs.drop o)
theorem Segs.one {α : Type} {P : Program} {d : Kd α} {f : Field} {o z : Nat} (h : Opens P d f.type) (ho : f.offset = o) (hz : z = o + P.cellsOf f.type) : Segs P d [f] o z := by
 intro H enc w base spare held fuel cs hl hf
 obtain ⟨x, hx⟩ := hf f (by simp)
 obtain ⟨a, ha⟩ := h hx
 refine ⟨a, ?_⟩
 rw [ho, List.take_of_length_le (by rw [List.length_drop]; omega)] at ha
 exact ha
theorem Segs.cons {α β : Type} {P : Program} {d : Kd α} {d' : Kd β} {f : Field} {fs : List Field} {o o' z : Nat} (h : Opens P d f.type) (ho : f.offset = o) (ho' : o' = o + P.cellsOf f.type) (hr : Segs P d' fs o' z) : Segs P (Kd.pair d d') (f :: fs) o z := by
 intro H enc w base spare held fuel cs hl hf
 obtain ⟨x, hx⟩ := hf f (by simp)
 obtain ⟨a, ha⟩ := h hx
 obtain ⟨b, hb⟩ := hr hl (fun f' h' => hf f' (List.mem_cons_of_mem _ h'))
 refine ⟨(a, b), _, _, ?_, ha, hb⟩
 rw [ho, ho', ← List.drop_drop, List.take_append_drop]
theorem Opens.struct {β : Type} {P : Program} {d : Kd β} {t : TypeId} {fs : Array Field} (h : P.underlying t = some (.struct fs)) (hr : Segs P d fs.toList 0 (P.cellsOf t)) : Opens P d t := by
 intro H enc w base spare held fuel cs x hx
 obtain ⟨xs, n, _, _, hl, hxl, hf⟩ := DataW.trod_struct h hx
 have := hr (enc := enc) (w := w) (base := base) (spare := spare) (held := held) (fuel := n) (cs := cs) hl (fun f hm => by
  obtain ⟨i, hi, rfl⟩ := List.mem_iff_getElem.1 hm
  have hi' : i < fs.size := by simpa using hi
  have h1 := hf i fs[i] (by simp [hi'])
  refine ⟨xs[i]'(by omega), ?_⟩
  rw [Array.getElem_toList]
  rw [h1]
  simp [hxl, hi'])
 rw [List.drop_zero] at this
 exact this
theorem Opens.row {α : Type} {P : Program} {d : Kd α} {t e : TypeId} (ht : P.underlying t = some (.slice e)) (hsz : P.cellsOf e = d.sz) (he : Opens P d e) {H : Type} {enc : TypeId × Value → H} {w : World} {base : Nat} {spare : Nat → Bool} {held : Bool} {fuel : Nat} {cs : List Value} {x : DataW H × List MemPlace}
  (hx : DataW.trod enc P w base spare held fuel t cs = some x) : ∃ A len cap, cs = [.slice A len cap] ∧ ∃ xs : List α, xs.length = len ∧ len ≤ cap ∧ d.C w A len xs := by
 rcases Deep.open_slice ht hx with ⟨rfl, _⟩ | ⟨a, len, cap, m, n, D, Pl, rfl, _, hl, hm, hmm, _, hel⟩
 ·exact ⟨none, 0, 0, rfl, [], rfl, Nat.le_refl _, rfl, by omega, fun h => absurd h (Nat.lt_irrefl _)⟩
 ·have hlm : len ≤ m := by rw [hmm]; split <;> omega
  have each : ∀ i, i < len → ∃ a' : α, ∃ cs', cs'.length = d.sz ∧ d.K w a' cs' ∧ ∀ j u, cs'[j]? = some u → w.cell? (a.add (i * d.sz + j)) = some u := by
   intro i hi
   obtain ⟨cs', h1, h2⟩ := hel i (by omega)
   obtain ⟨a', ha'⟩ := he h2
   obtain ⟨_, hlen, hcell⟩ := World.cells?_some h1
   refine ⟨a', cs', by omega, ha', fun j u hj => ?_⟩
   have hjl : j < cs'.length := (List.getElem?_eq_some_iff.1 hj).1
   have := hcell j (by omega)
   rw [Deep.add_add, hsz] at this
   rw [this, hj]
  obtain ⟨xs, hxs⟩ : ∃ xs : List α, xs.length = len ∧ ∀ i (h : i < xs.length), ∃ cs', cs'.length = d.sz ∧ d.K w xs[i] cs' ∧ ∀ j u, cs'[j]? = some u → w.cell? (a.add (i * d.sz + j)) = some u := by
   have key : ∀ k, k ≤ len → ∃ xs : List α, xs.length = k ∧ ∀ i (h : i < xs.length), ∃ cs', cs'.length = d.sz ∧ d.K w xs[i] cs' ∧ ∀ j u, cs'[j]? = some u → w.cell? (a.add (i * d.sz + j)) = some u := by
    intro k
    induction k with
    | zero => intro _; exact ⟨[], rfl, fun i h => absurd h (Nat.not_lt_zero _)⟩
    | succ k ih =>
     intro hk
     obtain ⟨xs, hl, hxs⟩ := ih (by omega)
     obtain ⟨a', ha'⟩ := each k (by omega)
     refine ⟨xs ++ [a'], by simp [hl], fun i h => ?_⟩
     by_cases hi : i < xs.length
     ·rw [List.getElem_append_left hi]
      exact hxs i hi
     ·have e : i = xs.length := by simp at h; omega
      subst e
      rw [List.getElem_append_right (Nat.le_refl _)]
      simp only [Nat.sub_self, List.getElem_cons_zero]
      rw [hl]
      exact ha'
   exact key len (Nat.le_refl _)
  refine ⟨some a, len, cap, rfl, xs, hxs.1, hl, hxs.1, ?_, fun _ => ⟨a, rfl, fun j p hj => ?_⟩⟩
  ·have : maxLen = 2 ^ 63 - 1 := rfl
   omega
  ·obtain ⟨hjl, rfl⟩ := List.getElem?_eq_some_iff.1 hj
   exact hxs.2 j hjl
theorem Opens.slice {α : Type} {P : Program} {d : Kd α} {t e : TypeId} (ht : P.underlying t = some (.slice e)) (hsz : P.cellsOf e = d.sz) (he : Opens P d e) : Opens P (Kd.slice e d) t := by
 intro H enc w base spare held fuel cs x hx
 obtain ⟨A, len, cap, rfl, xs, rfl, hl, hC⟩ := Opens.row ht hsz he hx
 exact ⟨xs, A, cap, rfl, hl, hC⟩
theorem open_arg {α : Type} {P : Program} {d : Kd α} {t e : TypeId} (ht : P.underlying t = some (.slice e)) (hsz : P.cellsOf e = d.sz) (he : Opens P d e) {H : Type} {enc : TypeId × Value → H} {w : World} {base : Nat} {spare : Nat → Bool} {held : Bool} {A : Option Addr} {len cap : Nat} {x : DataW H} {ps : List MemPlace}
  (hx : DataW.Trod enc P w base spare held t (.slice A len cap) x ps) : ∃ xs : List α, xs.length = len ∧ len ≤ cap ∧ d.C w A len xs := by
 obtain ⟨fuel, hf⟩ := hx
 obtain ⟨A', len', cap', e1, r⟩ := Opens.row ht hsz he hf
 simp [Value.cells] at e1
 obtain ⟨rfl, rfl, rfl⟩ := e1
 exact r
theorem sized_arg {H : Type} {enc : TypeId × Value → H} {P : Program} {W : World} {base : Nat} {spare : Nat → Bool} {held : Bool} {t e : TypeId} {a : Option Addr} {len cap : Nat} {d : DataW H} {ps : List MemPlace} {ts : List TypeId} {ds : List (DataW H)} {j : Nat}
  (hsz : (DataW.weightsEach P ts ds).all (· ≤ reachBytes) = true) (ht : ts[j]? = some t) (hd : ds[j]? = some d) (hu : P.underlying t = some (.slice e)) {B : Nat} (hB : P.bytesOf e = B)
  (h : DataW.Trod enc P W base spare held t (.slice a len cap) d ps) : len * B ≤ 140737488351232 := by
 obtain ⟨fuel, hf⟩ := h
 rcases Deep.open_slice hu hf with ⟨hcs, _⟩ | ⟨x, l, c, m, n, D, Pl, hcs, _, hl, _, hm, hx, _⟩
 ·simp [Value.cells] at hcs
  obtain ⟨rfl, rfl, rfl⟩ := hcs
  simp
 ·simp [Value.cells] at hcs
  obtain ⟨rfl, rfl, rfl⟩ := hcs
  obtain ⟨hx, _⟩ := Prod.mk.inj hx
  subst hx
  have z := sized_slice hsz ht hd hu
  rw [hB] at z
  simp only [List.length_map, List.length_range] at z
  exact Nat.le_trans (Nat.mul_le_mul_right _ (Nat.le_add_right _ _)) z
end Go.Proofs.YtmojlpafpeeelaaH
end
section
namespace Go.Proofs.Ytmojlpafpeeelaa.P
open Go.RowKit Go.Proofs.YtmojlpafpeeelaaW.PrintWords Go.Proofs.YtmojlpafpeeelaaW.PrintLast Go.Proofs.YtmojlpafpeeelaaW.PrintMore
attribute [local go_sem] max2_int min2_int max_two min_two max_three min_three max_four min_four
set_option linter.unusedVariables false
set_option linter.unusedSimpArgs false
def cohousingref28_Add.l0 : Nat → List (S39) → List (S39) → List (S39) → Int → Option ((List (S39)))
 | 0, _, _, _, _ => none
 | k + 1, x0, x1, x5, x6 => if x6 < (x0.length : Int) then (if x6 < (x1.length : Int) then (if 0 ≤ x6 then (if x5.length < 8796093022208 then (cohousingref28_Add.l0 k x0 x1 (x5 ++ [(⟨wrap64 (((rd_T39 x0 x6).f0) + ((rd_T39 x1 x6).f0)), wrap64 (((rd_T39 x0 x6).f1) + ((rd_T39 x1 x6).f1))⟩ : S39)]) (wrap64 (x6 + 1))) else (none)) else (none)) else (some x5)) else (some x5)
def cohousingref28_Add.f (k : Nat) (l0 : List (S39)) (l1 : List (S39)) : Option ((List (S39))) := cohousingref28_Add.l0 k l0 l1 ([] : List (S39)) 0
theorem cohousingref28_Add.mono_l : ∀ k, (∀ y0 y1 y2 y3, LeO (cohousingref28_Add.l0 k y0 y1 y2 y3) (cohousingref28_Add.l0 (k + 1) y0 y1 y2 y3))
 | 0 => fun _ _ _ _ r h => by simp [cohousingref28_Add.l0] at h
 | k + 1 => by
  have ih0 := cohousingref28_Add.mono_l k
  ·intro y0 y1 y2 y3
   unfold cohousingref28_Add.l0
   repeat' first
   | (with_reducible exact ih0 _ _ _ _)
   | (with_reducible exact LeO.refl _)
   | (with_reducible exact LeO.none _)
   | (with_reducible refine LeO.ite ?_ ?_)
   | (with_reducible refine LeO.bind ?_ (fun _ => ?_))
   | exact ih0 _ _ _ _
   | exact LeO.none _
   | refine LeO.ite ?_ ?_
   | refine LeO.bind ?_ (fun _ => ?_)
theorem cohousingref28_Add.mono : ∀ a0 a1 k, LeO (cohousingref28_Add.f k a0 a1) (cohousingref28_Add.f (k + 1) a0 a1) := by
 intro a0 a1 k
 have ih0 := cohousingref28_Add.mono_l k
 unfold cohousingref28_Add.f
 repeat' first
   | (with_reducible exact ih0 _ _ _ _)
   | (with_reducible exact LeO.refl _)
   | (with_reducible exact LeO.none _)
   | (with_reducible refine LeO.ite ?_ ?_)
   | (with_reducible refine LeO.bind ?_ (fun _ => ?_))
   | exact ih0 _ _ _ _
   | exact LeO.none _
   | refine LeO.ite ?_ ?_
   | refine LeO.bind ?_ (fun _ => ?_)
def cohousingref28_Add.T5 : Bool × List (List Nat × List Nat) := (true, [([], []), ([], []), ([], []), ([1, 2], [1, 2]), ([3], [3]), ([4], [4]), ([], []), ([], []), ([6, 7], [6, 7]), ([8], [8]), ([9], [9]), ([5, 10], [5, 10]), ([], []), ([], []), ([12, 13], [12, 13]), ([14], [14]), ([15], [15]), ([], []), ([], []), ([17, 18], [17, 18]), ([19], [19]), ([20], [20]), ([16, 21], [16, 21]), ([11, 22], [11, 22]), ([23], [23]), ([0, 24], [0, 24]), ([25, 25, 0, 1, 2, 3, 4, 5, 6, 7, 8, 9, 10, 11, 12, 13, 14, 15, 16, 17, 18, 19, 20, 21, 22, 23, 24, 25], [0, 25])])
def cohousingref28_Add.B5 : List Nat := [0, 0, 0, 6, 14, 30, 0, 0, 192, 448, 960, 2046, 0, 0, 12288, 28672, 61440, 0, 0, 393216, 917504, 1966080, 4190208, 8388606, 16777214, 33554431, 67108863]
theorem cohousingref28_Add.tab5 : rtab .any (opsOf Try.f23 5) = cohousingref28_Add.T5 := by kernel_rfl
theorem cohousingref28_Add.bits5 : waitsOk cohousingref28_Add.T5.2 cohousingref28_Add.B5 = true := by kernel_rfl
set_option maxHeartbeats 8000000 in
set_option maxRecDepth 100000 in
theorem cohousingref28_Add.calls (k : Nat) (A0 : Option Addr) (c0 : Nat) (l0 : List (S39)) (A1 : Option Addr) (c1 : Nat) (l1 : List (S39)) (r : List (S39)) (w : World) (hr0 : Kd.C k39 w A0 l0.length l0) (hc0 : l0.length ≤ c0) (hr1 : Kd.C k39 w A1 l1.length l1) (hc1 : l1.length ≤ c1) (h : cohousingref28_Add.f k l0 l1 = some r) :
  Calls Try.prog 23 #[.slice A0 l0.length c0, .slice A1 l1.length c1] w fun e w' => ∃ v0_ : Value, e = .returned (v0_) ∧ Kd.R k39 39 w' w.heap.size (fun _ => True) v0_ r ∧ Below w.heap.size w w' := by
 have hu39 := Try.underlying39
 have HR0 := Aside0.mk hr0
 have HC0 := Aside0.mk hc0
 clear hr0 hc0
 have HR1 := Aside0.mk hr1
 have HC1 := Aside0.mk hc1
 clear hr1 hc1
 have HB := Aside0.mk (Below.refl w.heap.size w)
 have H : (cohousingref28_Add.l0 k l0 l1 ([] : List (S39)) 0) = some r := h
 clear h
 have H' := Aside0.mk H
 clear H
 go_enter Try.func23, Try.ntmps23
 go_wp2
 go_loopg [5, 6] k (fun kq v5 v6 w' => ∃ (x5_1 : List (S39)) (x6_1 : Int), v6 = .int .i64 x6_1 ∧ Aside0 (cohousingref28_Add.l0 kq l0 l1 x5_1 x6_1 = some r) ∧ Aside0 (kq ≤ k) ∧ Aside0 (Kd.R k39 39 w' w.heap.size (fun _ => True) v5 x5_1) ∧ Aside0 (Below w.heap.size w w'))
 case atStart => exact ⟨(([] : List (S39))), (0), (by first | rfl | (simp; done) | (simp [*]; done)), H', ⟨Nat.le_refl _⟩, ⟨by first | exact Kd.R_nil _ _ _ _ _ | exact Kd.N_nil _ _ _ _ _ | exact Kd.V_nil _ _ _ _ _ | exact Kd.Q_nil _ _ _ _ _ | exact Kd.S_nil _ _ _ _ _⟩, ⟨by repeat (first | (with_reducible first | exact HB.out | apply below_alloc | apply pw_below_drewN | apply below_drew1) | exact HB.out)⟩⟩
 case round =>
  clear H'
  try clear c1
  try clear c2
  try clear p2
  obtain ⟨x5_1, x6_1, rfl, HA, HK1, HO_5, HB⟩ := hrel
  cases gk with
  | zero => exact absurd HA.out (by simp [cohousingref28_Add.l0])
  | succ k1 =>
   have H := HA.out
   clear HA
   simp only [cohousingref28_Add.l0] at H
   by_cases c3 : x6_1 < (l0.length : Int)
   ·rw [if_pos c3] at H
    have c3b0 : decide (x6_1 < (l0.length : Int)) = true := decide_eq_true c3
    clear c3
    by_cases c4 : x6_1 < (l1.length : Int)
    ·rw [if_pos c4] at H
     have c4b0 : decide (x6_1 < (l1.length : Int)) = true := decide_eq_true c4
     clear c4
     by_cases c5 : 0 ≤ x6_1
     ·rw [if_pos c5] at H
      have c5b0 : decide (0 ≤ x6_1) = true := decide_eq_true c5
      clear c5
      by_cases c6 : x5_1.length < 8796093022208
      ·rw [if_pos c6] at H
       have LMc6 := Aside0.mk c6
       clear c6
       obtain ⟨y402, hy402⟩ : ∃ y_ : List (S39), y_ = (x5_1 ++ [(⟨wrap64 (((rd_T39 l0 x6_1).f0) + ((rd_T39 l1 x6_1).f0)), wrap64 (((rd_T39 l0 x6_1).f1) + ((rd_T39 l1 x6_1).f1))⟩ : S39)]) := ⟨_, rfl⟩
       replace H : (cohousingref28_Add.l0 k1 l0 l1 y402 (wrap64 (x6_1 + 1))) = some r := by first | (rw [hy402]; with_reducible exact H) | (have H2_ := (Option.bind_some _ _).symm.trans H; rw [hy402]; with_reducible exact H2_) | (have H2_ := (Option.bind_some _ _).symm.trans H; with_reducible exact H2_) | with_reducible exact H | (rw [hy402]; exact H) | exact H
       have Ny402 := Aside0.mk hy402
       clear hy402
       have H' := Aside0.mk H
       clear H
       try go_wp2
       have n0_ := Aside0.mk (Kd.R_drew HO_5.out)
       have n1_ := Aside0.mk (below_drew1 HB.out)
       clear HO_5
       clear HB
       have HO_5 := n0_
       have HB := n1_
       clear n0_ n1_
       have p398 : 0 ≤ (x6_1 : Int) := of_decide_eq_true (by first | (with_reducible assumption) | assumption)
       have q398 : x6_1 < (l0.length : Int) := of_decide_eq_true (by first | (with_reducible assumption) | assumption)
       obtain ⟨ad398, e398, hx398_0, hx398_1⟩ := at_T39 HR0.out x6_1 p398 q398
       have hw398_1 := hx398_1
       have hw398_0 := hx398_0
       cases e398
       replace hx398_0 := (HB.out.cell (World.block_lt_of_cell? w _ hx398_0)).trans hx398_0
       replace hx398_1 := (HB.out.cell (World.block_lt_of_cell? w _ hx398_1)).trans hx398_1
       replace p398 := eq_true p398
       replace q398 := eq_true q398
       have p399 : 0 ≤ (x6_1 : Int) := of_decide_eq_true (by first | (with_reducible assumption) | assumption)
       have q399 : x6_1 < (l1.length : Int) := of_decide_eq_true (by first | (with_reducible assumption) | assumption)
       obtain ⟨ad399, e399, hx399_0, hx399_1⟩ := at_T39 HR1.out x6_1 p399 q399
       have hw399_1 := hx399_1
       have hw399_0 := hx399_0
       cases e399
       replace hx399_0 := (HB.out.cell (World.block_lt_of_cell? w _ hx399_0)).trans hx399_0
       replace hx399_1 := (HB.out.cell (World.block_lt_of_cell? w _ hx399_1)).trans hx399_1
       replace p399 := eq_true p399
       replace q399 := eq_true q399
       have p400 : 0 ≤ (x6_1 : Int) := of_decide_eq_true (by first | (with_reducible assumption) | assumption)
       have q400 : x6_1 < (l0.length : Int) := of_decide_eq_true (by first | (with_reducible assumption) | assumption)
       obtain ⟨ad400, e400, hx400_0, hx400_1⟩ := at_T39 HR0.out x6_1 p400 q400
       have hw400_1 := hx400_1
       have hw400_0 := hx400_0
       obtain rfl : ad398 = ad400 := (by injection e400)
       replace hx400_0 := (HB.out.cell (World.block_lt_of_cell? w _ hx400_0)).trans hx400_0
       replace hx400_1 := (HB.out.cell (World.block_lt_of_cell? w _ hx400_1)).trans hx400_1
       replace p400 := eq_true p400
       replace q400 := eq_true q400
       have p401 : 0 ≤ (x6_1 : Int) := of_decide_eq_true (by first | (with_reducible assumption) | assumption)
       have q401 : x6_1 < (l1.length : Int) := of_decide_eq_true (by first | (with_reducible assumption) | assumption)
       obtain ⟨ad401, e401, hx401_0, hx401_1⟩ := at_T39 HR1.out x6_1 p401 q401
       have hw401_1 := hx401_1
       have hw401_0 := hx401_0
       obtain rfl : ad399 = ad401 := (by injection e401)
       replace hx401_0 := (HB.out.cell (World.block_lt_of_cell? w _ hx401_0)).trans hx401_0
       replace hx401_1 := (HB.out.cell (World.block_lt_of_cell? w _ hx401_1)).trans hx401_1
       replace p401 := eq_true p401
       replace q401 := eq_true q401
       refine start_ (n := 27) (S := fun w' => w'.cell? (ad398.add ((x6_1).toNat * 2)) = some (.int .i64 ((rd_T39 l0 x6_1).f0)) ∧ w'.cell? ⟨(ad398.add ((x6_1).toNat * 2)).block, (ad398.add ((x6_1).toNat * 2)).off + 1, none⟩ = some (.int .i64 ((rd_T39 l0 x6_1).f1)) ∧ w'.cell? (ad399.add ((x6_1).toNat * 2)) = some (.int .i64 ((rd_T39 l1 x6_1).f0)) ∧ w'.cell? ⟨(ad399.add ((x6_1).toNat * 2)).block, (ad399.add ((x6_1).toNat * 2)).off + 1, none⟩ = some (.int .i64 ((rd_T39 l1 x6_1).f1)) ∧ w'.cell? (ad398.add ((x6_1).toNat * 2)) = some (.int .i64 ((rd_T39 l0 x6_1).f0)) ∧ w'.cell? ⟨(ad398.add ((x6_1).toNat * 2)).block, (ad398.add ((x6_1).toNat * 2)).off + 1, none⟩ = some (.int .i64 ((rd_T39 l0 x6_1).f1)) ∧ w'.cell? (ad399.add ((x6_1).toNat * 2)) = some (.int .i64 ((rd_T39 l1 x6_1).f0)) ∧ w'.cell? ⟨(ad399.add ((x6_1).toNat * 2)).block, (ad399.add ((x6_1).toNat * 2)).off + 1, none⟩ = some (.int .i64 ((rd_T39 l1 x6_1).f1))) (ds := []) #[n_, n_, n_, n_, n_, n_, n_, n_, n_, n_, n_, n_, n_, n_, n_, n_, n_, n_, n_, n_, n_, n_, n_, n_, n_, n_, n_] (by kernel_rfl) rfl rfl ⟨((HB.out.cell (World.block_lt_of_cell? w _ hw398_0)).trans hw398_0), ((HB.out.cell (World.block_lt_of_cell? w _ hw398_1)).trans hw398_1), ((HB.out.cell (World.block_lt_of_cell? w _ hw399_0)).trans hw399_0), ((HB.out.cell (World.block_lt_of_cell? w _ hw399_1)).trans hw399_1), ((HB.out.cell (World.block_lt_of_cell? w _ hw400_0)).trans hw400_0), ((HB.out.cell (World.block_lt_of_cell? w _ hw400_1)).trans hw400_1), ((HB.out.cell (World.block_lt_of_cell? w _ hw401_0)).trans hw401_0), ((HB.out.cell (World.block_lt_of_cell? w _ hw401_1)).trans hw401_1)⟩ (fun hHeld => ?_); refine with_tabW cohousingref28_Add.tab5 cohousingref28_Add.bits5 (fun HT_ HW_ => ?_)
       generalize wr.drew = w7 at HO_5 HB hx398_0 hx398_1 hx399_0 hx399_1 hx400_0 hx400_1 hx401_0 hx401_1 hHeld ⊢
       refine pure_ (i := 0) (N := some 19) (v := ?_) (a' := ?_) #[y_, n_, n_, n_, n_, n_, n_, n_, n_, n_, n_, n_, n_, n_, n_, n_, n_, n_, n_, n_, n_, n_, n_, n_, n_, n_, n_] rfl rfl (any_of HT_.out (by kernel_rfl)) (fun _ _ _ h => h) (Or.inl ⟨by rfl, ?_⟩) ?_ ?_
       rotate_left
       ·intro w'
        go_simp
        with_reducible rfl
       rotate_left
       ·simp only [Act.put, sI_, s0_, sS_, i64_w, i32_w]
        rfl
       refine pure_ (i := 1) (N := some 20) (v := ?_) (a' := ?_) #[y_, y_, n_, n_, n_, n_, n_, n_, n_, n_, n_, n_, n_, n_, n_, n_, n_, n_, n_, n_, n_, n_, n_, n_, n_, n_, n_] rfl rfl (any_of HT_.out (by kernel_rfl)) (fun _ _ _ h => h) (Or.inl ⟨by rfl, ?_⟩) ?_ ?_
       rotate_left
       ·intro w'
        go_simp
        with_reducible rfl
       rotate_left
       ·simp only [Act.put, sI_, s0_, sS_, i64_w, i32_w]
        rfl
       refine pure_ (i := 2) (N := some 21) (v := ?_) (a' := ?_) #[y_, y_, y_, n_, n_, n_, n_, n_, n_, n_, n_, n_, n_, n_, n_, n_, n_, n_, n_, n_, n_, n_, n_, n_, n_, n_, n_] rfl rfl (any_of HT_.out (by kernel_rfl)) (fun _ _ _ h => h) (Or.inl ⟨by rfl, ?_⟩) ?_ ?_
       rotate_left
       ·intro w'
        go_simp
        with_reducible rfl
       rotate_left
       ·simp only [Act.put, sI_, s0_, sS_, i64_w, i32_w]
        rfl
       refine pure_ (i := 3) (N := some 22) (v := ?_) (a' := ?_) #[y_, y_, y_, y_, n_, n_, n_, n_, n_, n_, n_, n_, n_, n_, n_, n_, n_, n_, n_, n_, n_, n_, n_, n_, n_, n_, n_] rfl rfl (any_of HT_.out (by kernel_rfl)) (fun _ _ _ h => h) (Or.inl ⟨by rfl, ?_⟩) ?_ ?_
       rotate_left
       ·intro w'
        go_simp
        with_reducible rfl
       rotate_left
       ·simp only [Act.put, sI_, s0_, sS_, i64_w, i32_w]
        rfl
       refine pure_ (i := 4) (N := some 23) (v := ?_) (a' := ?_) #[y_, y_, y_, y_, y_, n_, n_, n_, n_, n_, n_, n_, n_, n_, n_, n_, n_, n_, n_, n_, n_, n_, n_, n_, n_, n_, n_] rfl rfl (any_of HT_.out (by kernel_rfl)) (fun _ _ _ h => h) (Or.inl ⟨by rfl, ?_⟩) ?_ ?_
       rotate_left
       ·intro w'
        go_simp
        with_reducible rfl
       rotate_left
       ·simp only [Act.put, sI_, s0_, sS_, i64_w, i32_w]
        rfl
       refine pure_ (i := 6) (N := some 25) (v := ?_) (a' := ?_) #[y_, y_, y_, y_, y_, n_, y_, n_, n_, n_, n_, n_, n_, n_, n_, n_, n_, n_, n_, n_, n_, n_, n_, n_, n_, n_, n_] rfl rfl (any_of HT_.out (by kernel_rfl)) (fun _ _ _ h => h) (Or.inl ⟨by rfl, ?_⟩) ?_ ?_
       rotate_left
       ·intro w'
        go_simp
        with_reducible rfl
       rotate_left
       ·simp only [Act.put, sI_, s0_, sS_, i64_w, i32_w]
        rfl
       refine pure_ (i := 7) (N := some 26) (v := ?_) (a' := ?_) #[y_, y_, y_, y_, y_, n_, y_, y_, n_, n_, n_, n_, n_, n_, n_, n_, n_, n_, n_, n_, n_, n_, n_, n_, n_, n_, n_] rfl rfl (any_of HT_.out (by kernel_rfl)) (fun _ _ _ h => h) (Or.inl ⟨by rfl, ?_⟩) ?_ ?_
       rotate_left
       ·intro w'
        go_simp
        with_reducible rfl
       rotate_left
       ·simp only [Act.put, sI_, s0_, sS_, i64_w, i32_w]
        rfl
       refine pure_ (i := 8) (N := some 27) (v := ?_) (a' := ?_) #[y_, y_, y_, y_, y_, n_, y_, y_, y_, n_, n_, n_, n_, n_, n_, n_, n_, n_, n_, n_, n_, n_, n_, n_, n_, n_, n_] rfl rfl (any_of HT_.out (by kernel_rfl)) (fun _ _ _ h => h) (Or.inl ⟨by rfl, ?_⟩) ?_ ?_
       rotate_left
       ·intro w'
        go_simp
        with_reducible rfl
       rotate_left
       ·simp only [Act.put, sI_, s0_, sS_, i64_w, i32_w]
        rfl
       refine pure_ (i := 9) (N := some 28) (v := ?_) (a' := ?_) #[y_, y_, y_, y_, y_, n_, y_, y_, y_, y_, n_, n_, n_, n_, n_, n_, n_, n_, n_, n_, n_, n_, n_, n_, n_, n_, n_] rfl rfl (any_of HT_.out (by kernel_rfl)) (fun _ _ _ h => h) (Or.inl ⟨by rfl, ?_⟩) ?_ ?_
       rotate_left
       ·intro w'
        go_simp
        with_reducible rfl
       rotate_left
       ·simp only [Act.put, sI_, s0_, sS_, i64_w, i32_w]
        rfl
       refine pure_ (i := 12) (N := some 31) (v := ?_) (a' := ?_) #[y_, y_, y_, y_, y_, n_, y_, y_, y_, y_, n_, n_, y_, n_, n_, n_, n_, n_, n_, n_, n_, n_, n_, n_, n_, n_, n_] rfl rfl (any_of HT_.out (by kernel_rfl)) (fun _ _ _ h => h) (Or.inl ⟨by rfl, ?_⟩) ?_ ?_
       rotate_left
       ·intro w'
        go_simp
        with_reducible rfl
       rotate_left
       ·simp only [Act.put, sI_, s0_, sS_, i64_w, i32_w]
        rfl
       refine pure_ (i := 13) (N := some 32) (v := ?_) (a' := ?_) #[y_, y_, y_, y_, y_, n_, y_, y_, y_, y_, n_, n_, y_, y_, n_, n_, n_, n_, n_, n_, n_, n_, n_, n_, n_, n_, n_] rfl rfl (any_of HT_.out (by kernel_rfl)) (fun _ _ _ h => h) (Or.inl ⟨by rfl, ?_⟩) ?_ ?_
       rotate_left
       ·intro w'
        go_simp
        with_reducible rfl
       rotate_left
       ·simp only [Act.put, sI_, s0_, sS_, i64_w, i32_w]
        rfl
       refine pure_ (i := 14) (N := some 33) (v := ?_) (a' := ?_) #[y_, y_, y_, y_, y_, n_, y_, y_, y_, y_, n_, n_, y_, y_, y_, n_, n_, n_, n_, n_, n_, n_, n_, n_, n_, n_, n_] rfl rfl (any_of HT_.out (by kernel_rfl)) (fun _ _ _ h => h) (Or.inl ⟨by rfl, ?_⟩) ?_ ?_
       rotate_left
       ·intro w'
        go_simp
        with_reducible rfl
       rotate_left
       ·simp only [Act.put, sI_, s0_, sS_, i64_w, i32_w]
        rfl
       refine pure_ (i := 15) (N := some 34) (v := ?_) (a' := ?_) #[y_, y_, y_, y_, y_, n_, y_, y_, y_, y_, n_, n_, y_, y_, y_, y_, n_, n_, n_, n_, n_, n_, n_, n_, n_, n_, n_] rfl rfl (any_of HT_.out (by kernel_rfl)) (fun _ _ _ h => h) (Or.inl ⟨by rfl, ?_⟩) ?_ ?_
       rotate_left
       ·intro w'
        go_simp
        with_reducible rfl
       rotate_left
       ·simp only [Act.put, sI_, s0_, sS_, i64_w, i32_w]
        rfl
       refine pure_ (i := 17) (N := some 36) (v := ?_) (a' := ?_) #[y_, y_, y_, y_, y_, n_, y_, y_, y_, y_, n_, n_, y_, y_, y_, y_, n_, y_, n_, n_, n_, n_, n_, n_, n_, n_, n_] rfl rfl (any_of HT_.out (by kernel_rfl)) (fun _ _ _ h => h) (Or.inl ⟨by rfl, ?_⟩) ?_ ?_
       rotate_left
       ·intro w'
        go_simp
        with_reducible rfl
       rotate_left
       ·simp only [Act.put, sI_, s0_, sS_, i64_w, i32_w]
        rfl
       refine pure_ (i := 18) (N := some 37) (v := ?_) (a' := ?_) #[y_, y_, y_, y_, y_, n_, y_, y_, y_, y_, n_, n_, y_, y_, y_, y_, n_, y_, y_, n_, n_, n_, n_, n_, n_, n_, n_] rfl rfl (any_of HT_.out (by kernel_rfl)) (fun _ _ _ h => h) (Or.inl ⟨by rfl, ?_⟩) ?_ ?_
       rotate_left
       ·intro w'
        go_simp
        with_reducible rfl
       rotate_left
       ·simp only [Act.put, sI_, s0_, sS_, i64_w, i32_w]
        rfl
       refine pure_ (i := 19) (N := some 38) (v := ?_) (a' := ?_) #[y_, y_, y_, y_, y_, n_, y_, y_, y_, y_, n_, n_, y_, y_, y_, y_, n_, y_, y_, y_, n_, n_, n_, n_, n_, n_, n_] rfl rfl (any_of HT_.out (by kernel_rfl)) (fun _ _ _ h => h) (Or.inl ⟨by rfl, ?_⟩) ?_ ?_
       rotate_left
       ·intro w'
        go_simp
        with_reducible rfl
       rotate_left
       ·simp only [Act.put, sI_, s0_, sS_, i64_w, i32_w]
        rfl
       refine pure_ (i := 20) (N := some 39) (v := ?_) (a' := ?_) #[y_, y_, y_, y_, y_, n_, y_, y_, y_, y_, n_, n_, y_, y_, y_, y_, n_, y_, y_, y_, y_, n_, n_, n_, n_, n_, n_] rfl rfl (any_of HT_.out (by kernel_rfl)) (fun _ _ _ h => h) (Or.inl ⟨by rfl, ?_⟩) ?_ ?_
       rotate_left
       ·intro w'
        go_simp
        with_reducible rfl
       rotate_left
       ·simp only [Act.put, sI_, s0_, sS_, i64_w, i32_w]
        rfl
       refine take_ (i := 5) (N := some 24) (v := ?_) (a' := ?_) #[y_, y_, y_, y_, y_, y_, y_, y_, y_, y_, n_, n_, y_, y_, y_, y_, n_, y_, y_, y_, y_, n_, n_, n_, n_, n_, n_] rfl rfl (take_ofW HT_.out HW_.out (by kernel_rfl)) (fun _ _ _ h => h) (Or.inl ⟨by rfl, ?_⟩) hHeld ?_ ?_
       rotate_left
       ·rintro w' ⟨s0, s1, s2, s3, s4, s5, s6, s7⟩
        go_simp
        with_reducible rfl
       rotate_left
       ·simp only [Act.put, sI_, s0_, sS_, i64_w, i32_w]
        rfl
       refine take_ (i := 10) (N := some 29) (v := ?_) (a' := ?_) #[y_, y_, y_, y_, y_, y_, y_, y_, y_, y_, y_, n_, y_, y_, y_, y_, n_, y_, y_, y_, y_, n_, n_, n_, n_, n_, n_] rfl rfl (take_ofW HT_.out HW_.out (by kernel_rfl)) (fun _ _ _ h => h) (Or.inl ⟨by rfl, ?_⟩) hHeld ?_ ?_
       rotate_left
       ·rintro w' ⟨s0, s1, s2, s3, s4, s5, s6, s7⟩
        go_simp
        with_reducible rfl
       rotate_left
       ·simp only [Act.put, sI_, s0_, sS_, i64_w, i32_w]
        rfl
       refine pure_ (i := 11) (N := some 30) (v := ?_) (a' := ?_) #[y_, y_, y_, y_, y_, y_, y_, y_, y_, y_, y_, y_, y_, y_, y_, y_, n_, y_, y_, y_, y_, n_, n_, n_, n_, n_, n_] rfl rfl (any_of HT_.out (by kernel_rfl)) (fun _ _ _ h => h) (Or.inl ⟨by rfl, ?_⟩) ?_ ?_
       rotate_left
       ·intro w'
        go_simp
        with_reducible rfl
       rotate_left
       ·simp only [Act.put, sI_, s0_, sS_, i64_w, i32_w]
        rfl
       refine take_ (i := 16) (N := some 35) (v := ?_) (a' := ?_) #[y_, y_, y_, y_, y_, y_, y_, y_, y_, y_, y_, y_, y_, y_, y_, y_, y_, y_, y_, y_, y_, n_, n_, n_, n_, n_, n_] rfl rfl (take_ofW HT_.out HW_.out (by kernel_rfl)) (fun _ _ _ h => h) (Or.inl ⟨by rfl, ?_⟩) hHeld ?_ ?_
       rotate_left
       ·rintro w' ⟨s0, s1, s2, s3, s4, s5, s6, s7⟩
        go_simp
        with_reducible rfl
       rotate_left
       ·simp only [Act.put, sI_, s0_, sS_, i64_w, i32_w]
        rfl
       refine take_ (i := 21) (N := some 40) (v := ?_) (a' := ?_) #[y_, y_, y_, y_, y_, y_, y_, y_, y_, y_, y_, y_, y_, y_, y_, y_, y_, y_, y_, y_, y_, y_, n_, n_, n_, n_, n_] rfl rfl (take_ofW HT_.out HW_.out (by kernel_rfl)) (fun _ _ _ h => h) (Or.inl ⟨by rfl, ?_⟩) hHeld ?_ ?_
       rotate_left
       ·rintro w' ⟨s0, s1, s2, s3, s4, s5, s6, s7⟩
        go_simp
        with_reducible rfl
       rotate_left
       ·simp only [Act.put, sI_, s0_, sS_, i64_w, i32_w]
        rfl
       refine pure_ (i := 22) (N := some 41) (v := ?_) (a' := ?_) #[y_, y_, y_, y_, y_, y_, y_, y_, y_, y_, y_, y_, y_, y_, y_, y_, y_, y_, y_, y_, y_, y_, y_, n_, n_, n_, n_] rfl rfl (any_of HT_.out (by kernel_rfl)) (fun _ _ _ h => h) (Or.inl ⟨by rfl, ?_⟩) ?_ ?_
       rotate_left
       ·intro w'
        go_simp
        with_reducible rfl
       rotate_left
       ·simp only [Act.put, sI_, s0_, sS_, i64_w, i32_w]
        rfl
       refine pure_ (i := 23) (N := some 42) (v := ?_) (a' := ?_) #[y_, y_, y_, y_, y_, y_, y_, y_, y_, y_, y_, y_, y_, y_, y_, y_, y_, y_, y_, y_, y_, y_, y_, y_, n_, n_, n_] rfl rfl (any_of HT_.out (by kernel_rfl)) (fun _ _ _ h => h) (Or.inl ⟨by rfl, ?_⟩) ?_ ?_
       rotate_left
       ·intro w'
        go_simp
        with_reducible rfl
       rotate_left
       ·simp only [Act.put, sI_, s0_, sS_, i64_w, i32_w]
        rfl
       refine one_ (i := 24) (N := some 43) #[y_, y_, y_, y_, y_, y_, y_, y_, y_, y_, y_, y_, y_, y_, y_, y_, y_, y_, y_, y_, y_, y_, y_, y_, y_, n_, n_] rfl rfl (one_of HT_.out (by kernel_rfl)) (by decide) (fun K hK => ?_)
       refine value_ (w1 := ?_) (v := ?_) (by rfl) rfl ?_ ?_
       rotate_left 2
       ·go_simp
        constructor
        ·rfl
        ·rfl
       refine hK.out _ _ ⟨(World.cell?_alloc_lt _ _ _ (World.block_lt_of_cell? _ _ (((HB.out.cell (World.block_lt_of_cell? w _ hw398_0)).trans hw398_0)))).trans (((HB.out.cell (World.block_lt_of_cell? w _ hw398_0)).trans hw398_0)), (World.cell?_alloc_lt _ _ _ (World.block_lt_of_cell? _ _ (((HB.out.cell (World.block_lt_of_cell? w _ hw398_1)).trans hw398_1)))).trans (((HB.out.cell (World.block_lt_of_cell? w _ hw398_1)).trans hw398_1)), (World.cell?_alloc_lt _ _ _ (World.block_lt_of_cell? _ _ (((HB.out.cell (World.block_lt_of_cell? w _ hw399_0)).trans hw399_0)))).trans (((HB.out.cell (World.block_lt_of_cell? w _ hw399_0)).trans hw399_0)), (World.cell?_alloc_lt _ _ _ (World.block_lt_of_cell? _ _ (((HB.out.cell (World.block_lt_of_cell? w _ hw399_1)).trans hw399_1)))).trans (((HB.out.cell (World.block_lt_of_cell? w _ hw399_1)).trans hw399_1)), (World.cell?_alloc_lt _ _ _ (World.block_lt_of_cell? _ _ (((HB.out.cell (World.block_lt_of_cell? w _ hw400_0)).trans hw400_0)))).trans (((HB.out.cell (World.block_lt_of_cell? w _ hw400_0)).trans hw400_0)), (World.cell?_alloc_lt _ _ _ (World.block_lt_of_cell? _ _ (((HB.out.cell (World.block_lt_of_cell? w _ hw400_1)).trans hw400_1)))).trans (((HB.out.cell (World.block_lt_of_cell? w _ hw400_1)).trans hw400_1)), (World.cell?_alloc_lt _ _ _ (World.block_lt_of_cell? _ _ (((HB.out.cell (World.block_lt_of_cell? w _ hw401_0)).trans hw401_0)))).trans (((HB.out.cell (World.block_lt_of_cell? w _ hw401_0)).trans hw401_0)), (World.cell?_alloc_lt _ _ _ (World.block_lt_of_cell? _ _ (((HB.out.cell (World.block_lt_of_cell? w _ hw401_1)).trans hw401_1)))).trans (((HB.out.cell (World.block_lt_of_cell? w _ hw401_1)).trans hw401_1))⟩ (fun hHeld => ?_)
       clear hK K
       refine norm_ (a' := ?_) ?_ ?_
       rotate_left
       ·show Act.put _ (some 43) _ = _
        simp only [Act.put, sI_, s0_, sS_, i64_w, i32_w]
        rfl
       refine one_ (i := 25) (N := some 44) #[y_, y_, y_, y_, y_, y_, y_, y_, y_, y_, y_, y_, y_, y_, y_, y_, y_, y_, y_, y_, y_, y_, y_, y_, y_, y_, n_] rfl rfl (one_of HT_.out (by kernel_rfl)) (by decide) (fun K hK => ?_)
       refine Kd.R_append_step k39 (w0 := w) w.heap.size (by rfl) (.tmp 19) (.tmp 43) 23 39 (.agg #[(.int .i64 0), (.int .i64 0)]) 16 rfl Try.underlying23 info39 rfl (by decide) (by omega) u5 x5_1 (⟨wrap64 (((rd_T39 l0 x6_1).f0) + ((rd_T39 l1 x6_1).f0)), wrap64 (((rd_T39 l0 x6_1).f1) + ((rd_T39 l1 x6_1).f1))⟩ : S39) [.int .i64 (wrap64 (((rd_T39 l0 x6_1).f0) + ((rd_T39 l1 x6_1).f0))), .int .i64 (wrap64 (((rd_T39 l0 x6_1).f1) + ((rd_T39 l1 x6_1).f1)))] (fun _ => True) (fun _ => False) rfl rfl ?aP (fun _ hk => hk.elim) ?aF ?aO ?aB ?aS ?aL ?_
       (case aP => exact k39_mkM _ _ _ (⟨wrap64 (((rd_T39 l0 x6_1).f0) + ((rd_T39 l1 x6_1).f0)), wrap64 (((rd_T39 l0 x6_1).f1) + ((rd_T39 l1 x6_1).f1))⟩ : S39))
       (case aB => exact (by repeat (first | (with_reducible first | exact HB.out | apply below_alloc | apply pw_below_drewN | apply below_drew1) | exact HB.out)))
       (case aF => exact (fun _ _ => trivial))
       (case aO => exact (by (with_reducible repeat (first | apply Kd.R_alloc | apply Kd.R_drewN | apply Kd.R_drew)); exact HO_5.out))
       (case aS => exact (below_size (by repeat (first | (with_reducible first | exact HB.out | apply below_alloc | apply pw_below_drewN | apply below_drew1) | exact HB.out))))
       (case aL => have := LMc6.out; omega)
       intro v403 w8 ho hb hg hat
       rw [← Ny402.out] at ho
       have n0_ := Aside0.mk (hb)
       have n1_ := Aside0.mk (ho)
       clear HB
       clear HO_5
       have HB := n0_
       have HO404 := n1_
       clear n0_ n1_
       clear ho hb hg hat
       refine hK.out _ _ ⟨((HB.out.cell (World.block_lt_of_cell? w _ hw398_0)).trans hw398_0), ((HB.out.cell (World.block_lt_of_cell? w _ hw398_1)).trans hw398_1), ((HB.out.cell (World.block_lt_of_cell? w _ hw399_0)).trans hw399_0), ((HB.out.cell (World.block_lt_of_cell? w _ hw399_1)).trans hw399_1), ((HB.out.cell (World.block_lt_of_cell? w _ hw400_0)).trans hw400_0), ((HB.out.cell (World.block_lt_of_cell? w _ hw400_1)).trans hw400_1), ((HB.out.cell (World.block_lt_of_cell? w _ hw401_0)).trans hw401_0), ((HB.out.cell (World.block_lt_of_cell? w _ hw401_1)).trans hw401_1)⟩ (fun hHeld => ?_)
       clear hK K
       refine norm_ (a' := ?_) ?_ ?_
       rotate_left
       ·show Act.put _ (some 44) _ = _
        simp only [Act.put, sI_, s0_, sS_, i64_w, i32_w]
        rfl
       refine pure_ (i := 26) (N := some 5) (v := ?_) (a' := ?_) #[y_, y_, y_, y_, y_, y_, y_, y_, y_, y_, y_, y_, y_, y_, y_, y_, y_, y_, y_, y_, y_, y_, y_, y_, y_, y_, y_] rfl rfl (any_of HT_.out (by kernel_rfl)) (fun _ _ _ h => h) (Or.inl ⟨by rfl, ?_⟩) ?_ ?_
       rotate_left
       ·intro w'
        go_simp
        with_reducible rfl
       rotate_left
       ·simp only [Act.put, sI_, s0_, sS_, i64_w, i32_w]
        rfl
       refine done_ (done_of HT_.out (by kernel_rfl)) ?_
       try go_wp2
       go_roundg k1
       case measure => have := HK1.out; omega
       case rel => exact ⟨(y402), (wrap64 (x6_1 + 1)), (by first | rfl | (simp; done) | (simp [*]; done)), H', ⟨by have := HK1.out; omega⟩, ⟨by (with_reducible repeat (first | apply Kd.R_alloc | apply Kd.R_drewN | apply Kd.R_drew)); exact HO404.out⟩, ⟨by repeat (first | (with_reducible first | exact HB.out | apply below_alloc | apply pw_below_drewN | apply below_drew1) | exact HB.out)⟩⟩
      ·rw [if_neg c6] at H
       exact absurd H (by simp)
     ·rw [if_neg c5] at H
      exact absurd H (by simp)
    ·rw [if_neg c4] at H
     have c4b0 : decide (x6_1 < (l1.length : Int)) = false := decide_eq_false c4
     clear c4
     obtain rfl := Option.some.inj H
     go_wp2
     go_ret
     exact ⟨_, by first | rfl | (simp [errW_none, errW_some] <;> rfl) | (simp [*, errW_none, errW_some] <;> rfl), by (with_reducible repeat (first | apply Kd.R_alloc | apply Kd.R_drewN | apply Kd.R_drew)); exact HO_5.out, by repeat (first | (with_reducible first | exact HB.out | apply below_alloc | apply pw_below_drewN | apply below_drew1) | exact HB.out)⟩
   ·rw [if_neg c3] at H
    have c3b0 : decide (x6_1 < (l0.length : Int)) = false := decide_eq_false c3
    clear c3
    obtain rfl := Option.some.inj H
    go_wp2
    go_ret
    exact ⟨_, by first | rfl | (simp [errW_none, errW_some] <;> rfl) | (simp [*, errW_none, errW_some] <;> rfl), by (with_reducible repeat (first | apply Kd.R_alloc | apply Kd.R_drewN | apply Kd.R_drew)); exact HO_5.out, by repeat (first | (with_reducible first | exact HB.out | apply below_alloc | apply pw_below_drewN | apply below_drew1) | exact HB.out)⟩
end Go.Proofs.Ytmojlpafpeeelaa.P
end
section
namespace Go.Proofs.Ytmojlpafpeeelaa.P
open Go.RowKit Go.Proofs.YtmojlpafpeeelaaW.PrintWords Go.Proofs.YtmojlpafpeeelaaW.PrintLast Go.Proofs.YtmojlpafpeeelaaW.PrintMore
attribute [local go_sem] max2_int min2_int max_two min_two max_three min_three max_four min_four
set_option linter.unusedVariables false
set_option linter.unusedSimpArgs false
def cohousingref28_Leaf.f (k : Nat) (l0 : List (S44)) (a1 : Int) : Option (Bool) := (cohousingref28_below.f k l0 a1).bind fun t457 => (some ((t457.length : Int) == 0))
theorem cohousingref28_Leaf.mono : ∀ a0 a1 k, LeO (cohousingref28_Leaf.f k a0 a1) (cohousingref28_Leaf.f (k + 1) a0 a1) := by
 intro a0 a1 k
 unfold cohousingref28_Leaf.f
 repeat' first
   | (with_reducible exact cohousingref28_below.mono _ _ _)
   | (with_reducible exact LeO.refl _)
   | (with_reducible exact LeO.none _)
   | (with_reducible refine LeO.ite ?_ ?_)
   | (with_reducible refine LeO.bind ?_ (fun _ => ?_))
   | exact cohousingref28_below.mono _ _ _
   | exact LeO.none _
   | refine LeO.ite ?_ ?_
   | refine LeO.bind ?_ (fun _ => ?_)
set_option maxHeartbeats 8000000 in
set_option maxRecDepth 100000 in
theorem cohousingref28_Leaf.calls (k : Nat) (A0 : Option Addr) (c0 : Nat) (l0 : List (S44)) (a1 : Int) (r : Bool) (w : World) (hr0 : Kd.C k44 w A0 l0.length l0) (hc0 : l0.length ≤ c0) (h : cohousingref28_Leaf.f k l0 a1 = some r) :
  Calls Try.prog 24 #[.slice A0 l0.length c0, .int .i64 a1] w fun e w' => e = .returned (.bool r) ∧ Below w.heap.size w w' := by
 have HR0 := Aside0.mk hr0
 have HC0 := Aside0.mk hc0
 clear hr0 hc0
 have HB := Aside0.mk (Below.refl w.heap.size w)
 have H : ((cohousingref28_below.f k l0 a1).bind fun t457 => (some ((t457.length : Int) == 0))) = some r := h
 clear h
 replace H := Option.bind_eq_some_iff.mp H
 obtain ⟨t457, A30, H⟩ := H
 replace H : (some ((t457.length : Int) == 0)) = some r := H
 have A3 := Aside0.mk A30
 clear A30
 obtain rfl := Option.some.inj H
 go_enter Try.func24, Try.ntmps24
 go_wp2_with (first | ((with_reducible refine gate_callee (f := 36) rfl ?_); refine goesL_ (some 7) rfl rfl Try.func36 (by kernel_rfl) rfl #[.slice A0 l0.length c0, .int .i64 a1] rfl (by (try simp only [List.map_toArray, List.map_cons, List.map_nil]); first | done | rfl | (simp only [List.length_drop, List.length_take]; rfl)) ?_; (with_reducible refine (cohousingref28_below.calls k _ _ l0 a1 t457 _ ?side1 ?side2 A3.out).mono ?_); (case side1 => repeat (first | exact HR0.out | (with_reducible refine Kd.C_alloc ?_ _) | (with_reducible refine Kd.C_drewN ?_ _) | (with_reducible refine Kd.C_drew ?_))); (case side2 => exact HC0.out); rintro e w4 ⟨v458, rfl, ho0, hb⟩; refine ⟨_, rfl, ?_⟩; have n0_ := Aside0.mk (Kd.R_lower ho0 (below_size (by repeat (first | (with_reducible first | exact HB.out | apply below_alloc | apply pw_below_drewN | apply below_drew1) | exact HB.out)))); have n1_ := Aside0.mk (below_step (by repeat (first | (with_reducible first | exact HB.out | apply below_alloc | apply pw_below_drewN | apply below_drew1) | exact HB.out)) hb); clear HB; have HO459 := n0_; have HB := n1_; clear n0_ n1_; (try clear hb); (try clear hb2); (try clear hk); (try clear hi); (try clear ho0); obtain ⟨Ao5, co5, eo5⟩ := Kd.R_slice HO459.out; subst eo5))
 go_ret
 exact ⟨by first | rfl | (simp [errW_none, errW_some] <;> rfl) | (simp [*, errW_none, errW_some] <;> rfl), by repeat (first | (with_reducible first | exact HB.out | apply below_alloc | apply pw_below_drewN | apply below_drew1) | exact HB.out)⟩
end Go.Proofs.Ytmojlpafpeeelaa.P
end
