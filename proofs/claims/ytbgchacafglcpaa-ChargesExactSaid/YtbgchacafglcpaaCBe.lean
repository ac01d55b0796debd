/- Part 5 of the base that the seat's proofs share: words, walks and plain laws. -/
import Derived.ArgAppend
import Derived.Below
import Derived.BigQuiet
import Derived.ChangeOld
import Derived.ChangeSlices
import Derived.Deep.AppendLies
import Derived.Deep.CutBlock
import Derived.Deep.DeepCutAuto
import Derived.Deep.Draws
import Derived.Deep.LoopGhost
import Derived.Deep.OwnRows
import Derived.Deep.QuietTactic
import Derived.Deep.RegionHeld3
import Derived.Deep.Slices
import Derived.KernelRfl
import Derived.Laws.BitsLemmas
import Derived.Laws.BytesArg
import Derived.Laws.IdiomCopy
import Derived.Laws.MakeOwn
import Derived.Laws.OwnMore
import Derived.Laws.Rows
import Derived.Laws.Slices
import Derived.Laws.StructEq
import Derived.Lib.AppendStr
import Derived.Lib.ConvBytes
import Derived.LoopIn
import Derived.LoopNIn
import Derived.Maps.AppendAt
import Derived.Maps.Own
import Derived.OpenShut
import Derived.OrdersHeld
import Derived.OwnWalk
import Derived.OwnWalkIn
import Derived.ProofKit
import Derived.RangeFuncBound
import Derived.RangeFuncCalls
import Derived.RangeFuncLeaves
import Derived.RangeFuncNested
import Derived.RowKit
import Derived.RowKit3
import Derived.ShutString
import Derived.SizedLaws
import Derived.Tactics
import Derived.TacticsInMore
import Derived.Test.YtbgchacafglcpaaProg
import Derived.WalkKit
import Derived.WideLaws
import Derived.Test.YtbgchacafglcpaaCBd
set_option linter.unusedVariables false
set_option linter.unusedSimpArgs false
section
namespace Go.Proofs.Ytbgchacafglcpaa.P
open Go.RowKit Go.Proofs.YtbgchacafglcpaaW.PrintWords Go.Proofs.YtbgchacafglcpaaW.PrintLast Go.Proofs.YtbgchacafglcpaaW.PrintMore Go.Proofs.YtbgchacafglcpaaH
def cohousingref28_with.f (l0 : List (S38)) (a1 : Int) (a2 : Int) : Option ((List (S38))) := (some (([] : List (S38)) : List (S38))).bind fun y281 => (if y281.length + l0.length < 8796093022208 then ((some (y281 ++ l0 : List (S38))).bind fun y284 => (if 0 ≤ a1 then (if a1 < (y284.length : Int) then (some (y284.set (a1 : Int).toNat (⟨a2, a2⟩ : S38))) else (none)) else (none))) else (none))
mutual
def cohousingref28_State.j0 : Nat → List (S63) → List (S38) → Int → Int → Bool → Option (List Int × Int)
 | 0, _, _, _, _, _ => none
 | k + 1, x0, x1, x2, x3, x38 => if x38 = true then (some (([] : List Int), 1)) else (if 0 ≤ x2 then (if x2 < (x1.length : Int) then (if x3 < ((rd_T38 x1 x2).f0) then (cohousingref28_State.j1 k x0 x1 x2 x3 true) else (cohousingref28_State.j1 k x0 x1 x2 x3 (decide (x3 > ((rd_T38 x1 x2).f1))))) else (none)) else (none))
def cohousingref28_State.j1 : Nat → List (S63) → List (S38) → Int → Int → Bool → Option (List Int × Int)
 | 0, _, _, _, _, _ => none
 | k + 1, x0, x1, x2, x3, x54 => if x54 = true then (some (([] : List Int), 30)) else ((cohousingref28_with.f x1 x2 x3).bind fun t292 => ((cohousingref28_bounds.f k x0 t292).bind fun bt295 => (if bt295.2 = true then (cohousingref28_State.l0 k x0 bt295.1 ([] : List Int) 0) else (some (([] : List Int), 30)))))
def cohousingref28_State.l0 : Nat → List (S63) → List (S38) → List Int → Int → Option (List Int × Int)
 | 0, _, _, _, _ => none
 | k + 1, x0, x12, x14, x15 => if x15 < (x0.length : Int) then (if 0 ≤ x15 then (if x15 < (x12.length : Int) then (if x14.length < 17592186044416 then ((some (x14 ++ [(rd_T38 x12 x15).f0] : List Int)).bind fun y300 => ((cohousingref28_with.f x12 x15 ((rd_T38 x12 x15).f0)).bind fun t304 => ((cohousingref28_bounds.f k x0 t304).bind fun bt307 => (if bt307.2 = true then (cohousingref28_State.l0 k x0 bt307.1 y300 (wrap64 (x15 + 1))) else (cohousingref28_State.l0 k x0 x12 y300 (wrap64 (x15 + 1))))))) else (none)) else (none)) else (none)) else (some (x14, 0))
end
def cohousingref28_State.f (k : Nat) (l0 : List (S63)) (l1 : List (S38)) (a2 : Int) (a3 : Int) : Option (List Int × Int) := (cohousingref28_Valid.f k l0).bind fun t288 => ((cohousingref28_Belongs.f l0 l1).bind fun t289 => (if t288 = true then (if t289 = true then (if a2 < 0 then (cohousingref28_State.j0 k l0 l1 a2 a3 true) else (cohousingref28_State.j0 k l0 l1 a2 a3 (decide (a2 ≥ (l0.length : Int))))) else (cohousingref28_State.j0 k l0 l1 a2 a3 true)) else (cohousingref28_State.j0 k l0 l1 a2 a3 true)))
mutual
def cohousingref28_Consistent.j0 : Nat → List (S63) → List (S38) → List Int → Bool → Option (Bool × Int)
 | 0, _, _, _, _ => none
 | k + 1, x0, x1, x2, x32 => if x32 = true then (some (false, 1)) else (cohousingref28_Consistent.l0 k x0 x1 x2 0)
def cohousingref28_Consistent.l0 : Nat → List (S63) → List (S38) → List Int → Int → Option (Bool × Int)
 | 0, _, _, _, _ => none
 | k + 1, x0, x1, x2, x10 => if x10 < (x0.length : Int) then (if 0 ≤ x10 then (if x10 < (x2.length : Int) then (if x10 < (x1.length : Int) then (if (rd x2 x10) < ((rd_T38 x1 x10).f0) then (some (false, 0)) else (if (rd x2 x10) > ((rd_T38 x1 x10).f1) then (some (false, 0)) else (cohousingref28_Consistent.l0 k x0 x1 x2 (wrap64 (x10 + 1))))) else (none)) else (none)) else (none)) else (cohousingref28_Consistent.l1 k x0 x2 0)
def cohousingref28_Consistent.l1 : Nat → List (S63) → List Int → Int → Option (Bool × Int)
 | 0, _, _, _ => none
 | k + 1, x0, x2, x11 => if x11 < (x0.length : Int) then ((cohousingref28_below.f k x0 x11).bind fun t274 => (if 0 ≤ x11 then (if x11 < (x2.length : Int) then (cohousingref28_Consistent.l2 k x0 x2 x11 t274 (rd x2 x11) 0) else (none)) else (none))) else (some (true, 0))
def cohousingref28_Consistent.l2 : Nat → List (S63) → List Int → Int → List Int → Int → Int → Option (Bool × Int)
 | 0, _, _, _, _, _, _ => none
 | k + 1, x0, x2, x11, x12, x13, x14 => if x14 < (x12.length : Int) then (if 0 ≤ x14 then (if 0 ≤ (rd x12 x14) then (if (rd x12 x14) < (x2.length : Int) then (cohousingref28_Consistent.l2 k x0 x2 x11 x12 (wrap64 (x13 - (rd x2 (rd x12 x14)))) (wrap64 (x14 + 1))) else (none)) else (none)) else (none)) else (if (x12.length : Int) > 0 then (if x13 < 0 then (some (false, 0)) else (if 0 ≤ x11 then (if x11 < (x0.length : Int) then (if x13 > ((rd_T63 x0 x11).f2) then (some (false, 0)) else (cohousingref28_Consistent.l1 k x0 x2 (wrap64 (x11 + 1)))) else (none)) else (none))) else (cohousingref28_Consistent.l1 k x0 x2 (wrap64 (x11 + 1))))
end
def cohousingref28_Consistent.f (k : Nat) (l0 : List (S63)) (l1 : List (S38)) (l2 : List Int) : Option (Bool × Int) := (cohousingref28_Valid.f k l0).bind fun t268 => ((cohousingref28_Belongs.f l0 l1).bind fun t269 => (if t268 = true then (if t269 = true then (cohousingref28_Consistent.j0 k l0 l1 l2 ((l2.length : Int) != (l0.length : Int))) else (cohousingref28_Consistent.j0 k l0 l1 l2 true)) else (cohousingref28_Consistent.j0 k l0 l1 l2 true)))
end Go.Proofs.Ytbgchacafglcpaa.P
end
section
namespace Go.Proofs.Ytbgchacafglcpaa.P
open Go.RowKit Go.Proofs.YtbgchacafglcpaaW.PrintWords Go.Proofs.YtbgchacafglcpaaW.PrintLast Go.Proofs.YtbgchacafglcpaaW.PrintMore Go.Proofs.YtbgchacafglcpaaH Go.Proofs.FlowTree
open Classical
abbrev fx (x : List Int) (j : Nat) : Int := rd x (j : Int)
theorem okIn_iff (r : List RG) (x : List Int) (i : Nat) : okIn r x i = true ↔ lo9 r i ≤ fx x i ∧ fx x i ≤ hi9 r i := by
 unfold okIn lo9 hi9 fx rr
 simp only [Bool.and_eq_true, Bool.not_eq_true', decide_eq_false_iff_not]
 omega
theorem mk_map (x : List Int) (j : Nat) : (rv (x.map mkI) j).f0 = fx x j := by
 simp only [rv, rd_T74, fx, rd, Int.toNat_natCast, List.getD_eq_getElem?_getD, List.getElem?_map]
 cases x[j]? <;> rfl
section
variable {l : List PI} {kids : List (List Int)}
theorem lost_eq (hn : l.length ≤ 200) (hk : ∀ j, j < l.length → rdK kids j = (kidsAt l l.length j).map Int.ofNat) {x : List Int} (hx : ∀ j, j < l.length → 0 ≤ fx x j ∧ fx x j ≤ 1000000000) {i : Nat} (hi : i < l.length) :
  (belowI kids (x.map mkI) i).length = (kidsAt l l.length i).length ∧ lostI kids x i = fx x i - sm (fx x) (kidsAt l l.length i) := by
 have hkm : ∀ k ∈ kidsAt l l.length i, k < l.length := fun k hk' => (kidsAt_mem.1 hk').1
 have hbl := kids_len l i
 have hb := sm_bound (f := fx x) (ks := kidsAt l l.length i) (a := 0) (b := 1000000000) (fun k hk' => hx k (hkm k hk'))
 have hxi := hx i hi
 unfold lostI
 rw [below_eq hk _ i hi, List.length_map]
 refine ⟨rfl, ?_⟩
 rw [total_eq _ _ _ (by omega) (fun k hk' => by rw [mk_map]; exact hx k (hkm k hk'))]
 rw [sm_congr (f := fun k => (rv (x.map mkI) k).f0) (g := fx x) (fun k _ => mk_map x k)]
 show wrap64 (fx x i - sm (fx x) (kidsAt l l.length i)) = _
 exact wrap_id (by omega) (by omega)
theorem okEq_iff (hn : l.length ≤ 200) (hk : ∀ j, j < l.length → rdK kids j = (kidsAt l l.length j).map Int.ofNat) {x : List Int} (hx : ∀ j, j < l.length → 0 ≤ fx x j ∧ fx x j ≤ 1000000000) {i : Nat} (hi : i < l.length) :
  okEq l kids x i = true ↔ (netT l).eq (fx x) i := by
 have h := lost_eq hn hk hx hi
 unfold okEq Net.eq
 rw [h.1, h.2]
 simp only [netT, Bool.or_eq_true, Bool.and_eq_true, Bool.not_eq_true', decide_eq_true_eq, decide_eq_false_iff_not]
 constructor
 ·rintro (h1 | h1) hne
  ·exact absurd (List.length_eq_zero_iff.1 h1) hne
  ·unfold loP; omega
 ·intro h1
  by_cases hne : kidsAt l l.length i = []
  ·exact .inl (by rw [hne]; rfl)
  ·have := h1 hne
   unfold loP at this
   exact .inr (by omega)
theorem cons_sol {r : List RG} (hg : Good l r) (hk : ∀ j, j < l.length → rdK kids j = (kidsAt l l.length j).map Int.ofNat) (x : List Int) :
  ((List.range l.length).all (okIn r x) && (List.range l.length).all (okEq l kids x)) = decide (Sol (netT l) (lo9 r) (hi9 r) (fx x)) := by
 by_cases hin : ∀ i, i < l.length → lo9 r i ≤ fx x i ∧ fx x i ≤ hi9 r i
 ·have hx : ∀ j, j < l.length → 0 ≤ fx x j ∧ fx x j ≤ 1000000000 := fun j hj => by have := hin j hj; have := hg.vol j hj; omega
  rw [all_true (fun i hi => (okIn_iff r x i).2 (hin i hi)), Bool.true_and]
  by_cases heq : ∀ i, i < l.length → (netT l).eq (fx x) i
  ·rw [all_true (fun i hi => (okEq_iff hg.n hk hx hi).2 (heq i hi)), decide_eq_true ⟨hin, heq⟩]
  ·rw [decide_eq_false (fun h => heq h.2)]
   have hex : ∃ i, i < l.length ∧ ¬ (netT l).eq (fx x) i := by
    apply Classical.byContradiction
    intro hc
    exact heq (fun i hi => Classical.byContradiction (fun h => hc ⟨i, hi, h⟩))
   obtain ⟨i, hi, hne⟩ := hex
   exact all_false hi (by rw [Bool.eq_false_iff]; exact fun h => hne ((okEq_iff hg.n hk hx hi).1 h))
 ·rw [decide_eq_false (fun h => hin h.1)]
  have hex : ∃ i, i < l.length ∧ ¬ (lo9 r i ≤ fx x i ∧ fx x i ≤ hi9 r i) := by
   apply Classical.byContradiction
   intro hc
   exact hin (fun i hi => Classical.byContradiction (fun h => hc ⟨i, hi, h⟩))
  obtain ⟨i, hi, hne⟩ := hex
  rw [all_false hi (by rw [Bool.eq_false_iff]; exact fun h => hne ((okIn_iff r x i).1 h)), Bool.false_and]
end
theorem consR_is (l : List PI) (r : List RG) (x : List Int) : consR l r x = if Good l r ∧ x.length = l.length then (decide (Sol (netT l) (lo9 r) (hi9 r) (fx x)), 0) else (false, 1) := by
 unfold consR
 by_cases hg : Good l r
 ·obtain ⟨kids, h1, h2⟩ := netOk_some hg.ok hg.n
  rw [h1]
  simp only []
  rw [if_pos ((good_iff l r).1 hg).2]
  by_cases hx : x.length = l.length
  ·rw [if_pos hx, if_pos ⟨hg, hx⟩, cons_sol hg h2]
  ·rw [if_neg hx, if_neg (fun h => hx h.2)]
 ·rw [if_neg (fun h => hg h.1)]
  have hno := fun h => hg ((good_iff l r).2 h)
  by_cases hv : okL l ∧ l.length ≤ 200
  ·obtain ⟨kids, h1, h2⟩ := netOk_some hv.1 hv.2
   rw [h1]
   simp only []
   rw [if_neg (fun h => hno ⟨hv, h⟩)]
  ·rw [netOk_none hv]
section
variable {l : List PI} {r : List RG} {x : List Int}
end
end Go.Proofs.Ytbgchacafglcpaa.P
end
section
namespace Go.Proofs.Ytbgchacafglcpaa.P
open Go.RowKit Go.Proofs.YtbgchacafglcpaaW.PrintWords Go.Proofs.YtbgchacafglcpaaW.PrintLast Go.Proofs.YtbgchacafglcpaaW.PrintMore
attribute [local go_sem] max2_int min2_int max_two min_two max_three min_three max_four min_four
set_option linter.unusedVariables false
set_option linter.unusedSimpArgs false
def cohousingref29_cost.f (a0 : Int) : Option (Bool) := if a0 ≥ 0 then (some (decide (a0 ≤ 1000000000))) else (some false)
end Go.Proofs.Ytbgchacafglcpaa.P
end
section
namespace Go.Proofs.Ytbgchacafglcpaa.P
open Go.RowKit Go.Proofs.YtbgchacafglcpaaW.PrintWords Go.Proofs.YtbgchacafglcpaaW.PrintLast Go.Proofs.YtbgchacafglcpaaW.PrintMore
attribute [local go_sem] max2_int min2_int max_two min_two max_three min_three max_four min_four
set_option linter.unusedVariables false
set_option linter.unusedSimpArgs false
def cohousingref29_Homes.l0 : Nat → List Int → Int → Option (Bool)
 | 0, _, _ => none
 | k + 1, x0, x5 => if x5 < (x0.length : Int) then (if 0 ≤ x5 then (if (rd x0 x5) < 1 then (some false) else (if (rd x0 x5) > 64 then (some false) else (if x5 > 0 then (if 0 ≤ (wrap64 (x5 - 1)) then (if (wrap64 (x5 - 1)) < (x0.length : Int) then (if (rd x0 x5) ≤ (rd x0 (wrap64 (x5 - 1))) then (some false) else (cohousingref29_Homes.l0 k x0 (wrap64 (x5 + 1)))) else (none)) else (none)) else (cohousingref29_Homes.l0 k x0 (wrap64 (x5 + 1)))))) else (none)) else (some true)
def cohousingref29_Homes.f (k : Nat) (l0 : List Int) (a1 : Int) : Option (Bool) := if (l0.length : Int) = a1 then (cohousingref29_Homes.l0 k l0 0) else (some false)
theorem cohousingref29_Homes.mono_l : ∀ k, (∀ y0 y1, LeO (cohousingref29_Homes.l0 k y0 y1) (cohousingref29_Homes.l0 (k + 1) y0 y1))
 | 0 => fun _ _ r h => by simp [cohousingref29_Homes.l0] at h
 | k + 1 => by
  have ih0 := cohousingref29_Homes.mono_l k
  ·intro y0 y1
   unfold cohousingref29_Homes.l0
   repeat' first
   | (with_reducible exact ih0 _ _)
   | (with_reducible exact LeO.refl _)
   | (with_reducible exact LeO.none _)
   | (with_reducible refine LeO.ite ?_ ?_)
   | (with_reducible refine LeO.bind ?_ (fun _ => ?_))
   | exact ih0 _ _
   | exact LeO.none _
   | refine LeO.ite ?_ ?_
   | refine LeO.bind ?_ (fun _ => ?_)
theorem cohousingref29_Homes.mono : ∀ a0 a1 k, LeO (cohousingref29_Homes.f k a0 a1) (cohousingref29_Homes.f (k + 1) a0 a1) := by
 intro a0 a1 k
 have ih0 := cohousingref29_Homes.mono_l k
 unfold cohousingref29_Homes.f
 repeat' first
   | (with_reducible exact ih0 _ _)
   | (with_reducible exact LeO.refl _)
   | (with_reducible exact LeO.none _)
   | (with_reducible refine LeO.ite ?_ ?_)
   | (with_reducible refine LeO.bind ?_ (fun _ => ?_))
   | exact ih0 _ _
   | exact LeO.none _
   | refine LeO.ite ?_ ?_
   | refine LeO.bind ?_ (fun _ => ?_)
end Go.Proofs.Ytbgchacafglcpaa.P
end
section
namespace Go.Proofs.Ytbgchacafglcpaa.P
open Go.RowKit Go.Proofs.YtbgchacafglcpaaW.PrintWords Go.Proofs.YtbgchacafglcpaaW.PrintLast Go.Proofs.YtbgchacafglcpaaW.PrintMore
attribute [local go_sem] max2_int min2_int max_two min_two max_three min_three max_four min_four
set_option linter.unusedVariables false
set_option linter.unusedSimpArgs false
mutual
def cohousingref29_Parts.j0 : Nat → Int → List (S38) → Bool → Option (Bool)
 | 0, _, _, _ => none
 | k + 1, x0, x1, x16 => if x16 = true then (some false) else (cohousingref29_Parts.l0 k x0 x1 0)
def cohousingref29_Parts.l0 : Nat → Int → List (S38) → Int → Option (Bool)
 | 0, _, _, _ => none
 | k + 1, x0, x1, x5 => if x5 < (x1.length : Int) then (if 0 ≤ x5 then (if ((rd_T38 x1 x5).f0) < 0 then (some false) else (if ((rd_T38 x1 x5).f0) > ((rd_T38 x1 x5).f1) then (some false) else (if ((rd_T38 x1 x5).f1) > x0 then (some false) else (cohousingref29_Parts.l0 k x0 x1 (wrap64 (x5 + 1)))))) else (none)) else (some true)
end
def cohousingref29_Parts.f (k : Nat) (a0 : Int) (l1 : List (S38)) : Option (Bool) := if a0 < 1 then (cohousingref29_Parts.j0 k a0 l1 true) else (if a0 > 1000000000 then (cohousingref29_Parts.j0 k a0 l1 true) else (cohousingref29_Parts.j0 k a0 l1 (decide ((l1.length : Int) > 200))))
theorem cohousingref29_Parts.mono_l : ∀ k, (∀ y0 y1 y2, LeO (cohousingref29_Parts.j0 k y0 y1 y2) (cohousingref29_Parts.j0 (k + 1) y0 y1 y2)) ∧ (∀ y0 y1 y2, LeO (cohousingref29_Parts.l0 k y0 y1 y2) (cohousingref29_Parts.l0 (k + 1) y0 y1 y2))
 | 0 => ⟨fun _ _ _ r h => by simp [cohousingref29_Parts.j0] at h, fun _ _ _ r h => by simp [cohousingref29_Parts.l0] at h⟩
 | k + 1 => by
  obtain ⟨ih0, ih1⟩ := cohousingref29_Parts.mono_l k
  refine ⟨?_, ?_⟩
  ·intro y0 y1 y2
   unfold cohousingref29_Parts.j0
   repeat' first
   | (with_reducible exact ih0 _ _ _)
   | (with_reducible exact ih1 _ _ _)
   | (with_reducible exact LeO.refl _)
   | (with_reducible exact LeO.none _)
   | (with_reducible refine LeO.ite ?_ ?_)
   | (with_reducible refine LeO.bind ?_ (fun _ => ?_))
   | exact ih0 _ _ _
   | exact ih1 _ _ _
   | exact LeO.none _
   | refine LeO.ite ?_ ?_
   | refine LeO.bind ?_ (fun _ => ?_)
  ·intro y0 y1 y2
   unfold cohousingref29_Parts.l0
   repeat' first
   | (with_reducible exact ih0 _ _ _)
   | (with_reducible exact ih1 _ _ _)
   | (with_reducible exact LeO.refl _)
   | (with_reducible exact LeO.none _)
   | (with_reducible refine LeO.ite ?_ ?_)
   | (with_reducible refine LeO.bind ?_ (fun _ => ?_))
   | exact ih0 _ _ _
   | exact ih1 _ _ _
   | exact LeO.none _
   | refine LeO.ite ?_ ?_
   | refine LeO.bind ?_ (fun _ => ?_)
theorem cohousingref29_Parts.mono : ∀ a0 a1 k, LeO (cohousingref29_Parts.f k a0 a1) (cohousingref29_Parts.f (k + 1) a0 a1) := by
 intro a0 a1 k
 obtain ⟨ih0, ih1⟩ := cohousingref29_Parts.mono_l k
 unfold cohousingref29_Parts.f
 repeat' first
   | (with_reducible exact ih0 _ _ _)
   | (with_reducible exact ih1 _ _ _)
   | (with_reducible exact LeO.refl _)
   | (with_reducible exact LeO.none _)
   | (with_reducible refine LeO.ite ?_ ?_)
   | (with_reducible refine LeO.bind ?_ (fun _ => ?_))
   | exact ih0 _ _ _
   | exact ih1 _ _ _
   | exact LeO.none _
   | refine LeO.ite ?_ ?_
   | refine LeO.bind ?_ (fun _ => ?_)
end Go.Proofs.Ytbgchacafglcpaa.P
end
section
namespace Go.Proofs.Ytbgchacafglcpaa.P
open Go.RowKit Go.Proofs.YtbgchacafglcpaaW.PrintWords Go.Proofs.YtbgchacafglcpaaW.PrintLast Go.Proofs.YtbgchacafglcpaaW.PrintMore
attribute [local go_sem] max2_int min2_int max_two min_two max_three min_three max_four min_four
set_option linter.unusedVariables false
set_option linter.unusedSimpArgs false
mutual
def cohousingref29_Bounds.j0 : Nat → Int → Int → List (S38) → Bool → Option ((List (S38)) × Int)
 | 0, _, _, _, _ => none
 | k + 1, x0, x1, x2, x22 => if x22 = true then (some (([] : List (S38)), 1)) else (cohousingref29_Bounds.l0 k x0 x1 x2 ([] : List (S38)) 0)
def cohousingref29_Bounds.l0 : Nat → Int → Int → List (S38) → List (S38) → Int → Option ((List (S38)) × Int)
 | 0, _, _, _, _, _ => none
 | k + 1, x0, x1, x2, x10, x11 => if x11 < (x2.length : Int) then (if 0 ≤ x11 then ((cohousingref29_Right.f k x0 x1 ((rd_T38 x2 x11).f0)).bind fun t224 => ((cohousingref29_Right.f k x0 x1 ((rd_T38 x2 x11).f1)).bind fun t226 => (if x10.length < 8796093022208 then (cohousingref29_Bounds.l0 k x0 x1 x2 (x10 ++ [(⟨t224, t226⟩ : S38)]) (wrap64 (x11 + 1))) else (none)))) else (none)) else (some (x10, 0))
end
def cohousingref29_Bounds.f (k : Nat) (a0 : Int) (a1 : Int) (l2 : List (S38)) : Option ((List (S38)) × Int) := (cohousingref29_cost.f a0).bind fun t221 => ((cohousingref29_Parts.f k a1 l2).bind fun t222 => (if t221 = true then (cohousingref29_Bounds.j0 k a0 a1 l2 (!t222)) else (cohousingref29_Bounds.j0 k a0 a1 l2 true)))
theorem cohousingref29_Bounds.mono_l : ∀ k, (∀ y0 y1 y2 y3, LeO (cohousingref29_Bounds.j0 k y0 y1 y2 y3) (cohousingref29_Bounds.j0 (k + 1) y0 y1 y2 y3)) ∧ (∀ y0 y1 y2 y3 y4, LeO (cohousingref29_Bounds.l0 k y0 y1 y2 y3 y4) (cohousingref29_Bounds.l0 (k + 1) y0 y1 y2 y3 y4))
 | 0 => ⟨fun _ _ _ _ r h => by simp [cohousingref29_Bounds.j0] at h, fun _ _ _ _ _ r h => by simp [cohousingref29_Bounds.l0] at h⟩
 | k + 1 => by
  obtain ⟨ih0, ih1⟩ := cohousingref29_Bounds.mono_l k
  refine ⟨?_, ?_⟩
  ·intro y0 y1 y2 y3
   unfold cohousingref29_Bounds.j0
   repeat' first
   | (with_reducible exact ih0 _ _ _ _)
   | (with_reducible exact ih1 _ _ _ _ _)
   | (with_reducible exact cohousingref29_Parts.mono _ _ _)
   | (with_reducible exact cohousingref29_Right.mono _ _ _ _)
   | (with_reducible exact LeO.refl _)
   | (with_reducible exact LeO.none _)
   | (with_reducible refine LeO.ite ?_ ?_)
   | (with_reducible refine LeO.bind ?_ (fun _ => ?_))
   | exact ih0 _ _ _ _
   | exact ih1 _ _ _ _ _
   | exact cohousingref29_Parts.mono _ _ _
   | exact cohousingref29_Right.mono _ _ _ _
   | exact LeO.none _
   | refine LeO.ite ?_ ?_
   | refine LeO.bind ?_ (fun _ => ?_)
  ·intro y0 y1 y2 y3 y4
   unfold cohousingref29_Bounds.l0
   repeat' first
   | (with_reducible exact ih0 _ _ _ _)
   | (with_reducible exact ih1 _ _ _ _ _)
   | (with_reducible exact cohousingref29_Parts.mono _ _ _)
   | (with_reducible exact cohousingref29_Right.mono _ _ _ _)
   | (with_reducible exact LeO.refl _)
   | (with_reducible exact LeO.none _)
   | (with_reducible refine LeO.ite ?_ ?_)
   | (with_reducible refine LeO.bind ?_ (fun _ => ?_))
   | exact ih0 _ _ _ _
   | exact ih1 _ _ _ _ _
   | exact cohousingref29_Parts.mono _ _ _
   | exact cohousingref29_Right.mono _ _ _ _
   | exact LeO.none _
   | refine LeO.ite ?_ ?_
   | refine LeO.bind ?_ (fun _ => ?_)
theorem cohousingref29_Bounds.mono : ∀ a0 a1 a2 k, LeO (cohousingref29_Bounds.f k a0 a1 a2) (cohousingref29_Bounds.f (k + 1) a0 a1 a2) := by
 intro a0 a1 a2 k
 obtain ⟨ih0, ih1⟩ := cohousingref29_Bounds.mono_l k
 unfold cohousingref29_Bounds.f
 repeat' first
   | (with_reducible exact ih0 _ _ _ _)
   | (with_reducible exact ih1 _ _ _ _ _)
   | (with_reducible exact cohousingref29_Parts.mono _ _ _)
   | (with_reducible exact cohousingref29_Right.mono _ _ _ _)
   | (with_reducible exact LeO.refl _)
   | (with_reducible exact LeO.none _)
   | (with_reducible refine LeO.ite ?_ ?_)
   | (with_reducible refine LeO.bind ?_ (fun _ => ?_))
   | exact ih0 _ _ _ _
   | exact ih1 _ _ _ _ _
   | exact cohousingref29_Parts.mono _ _ _
   | exact cohousingref29_Right.mono _ _ _ _
   | exact LeO.none _
   | refine LeO.ite ?_ ?_
   | refine LeO.bind ?_ (fun _ => ?_)
end Go.Proofs.Ytbgchacafglcpaa.P
end
section
namespace Go.Proofs.Ytbgchacafglcpaa.P
open Go.RowKit Go.Proofs.YtbgchacafglcpaaW.PrintWords Go.Proofs.YtbgchacafglcpaaW.PrintLast Go.Proofs.YtbgchacafglcpaaW.PrintMore
attribute [local go_sem] max2_int min2_int max_two min_two max_three min_three max_four min_four
set_option linter.unusedVariables false
set_option linter.unusedSimpArgs false
mutual
def cohousingref29_Share.l0 : Nat → Int → Int → List Int → List (S38) → List (S38) → Int → Int → List (S43) → Int → Option ((List (S43)) × Int × Int)
 | 0, _, _, _, _, _, _, _, _, _ => none
 | k + 1, x0, x1, x2, x3, x11, x14, x15, x16, x17 => if x17 < (x3.length : Int) then (if 0 ≤ x17 then (if x17 < (x11.length : Int) then (if x17 < (x2.length : Int) then (if x16.length < 3518437208883 then (cohousingref29_Share.l0 k x0 x1 x2 x3 x11 (wrap64 (x14 + ((rd_T38 x3 x17).f0))) (wrap64 (x15 + (wrap64 (Int.tdiv (wrap64 (((rd_T38 x11 x17).f0) + ((rd_T38 x11 x17).f1))) 2)))) (x16 ++ [(⟨rd x2 x17, wrap64 (Int.tdiv (wrap64 (((rd_T38 x11 x17).f0) + ((rd_T38 x11 x17).f1))) 2), (⟨(rd_T38 x11 x17).f0, (rd_T38 x11 x17).f1⟩ : S38), (((rd_T38 x11 x17).f0) == ((rd_T38 x11 x17).f1))⟩ : S43)]) (wrap64 (x17 + 1))) else (none)) else (none)) else (none)) else (none)) else (if x14 > x1 then (some (([] : List (S43)), 0, 30)) else (cohousingref29_Share.l1 k x0 x15 x16 (wrap64 ((x16.length : Int) - 1))))
def cohousingref29_Share.l1 : Nat → Int → Int → List (S43) → Int → Option ((List (S43)) × Int × Int)
 | 0, _, _, _, _ => none
 | k + 1, x0, x15, x16, x20 => if x20 ≥ 0 then (if 0 ≤ x20 then (if x20 < (x16.length : Int) then (if (mn (wrap64 (x15 - x0)) (wrap64 (((rd_T43 x16 x20).f1) - ((rd_T43 x16 x20).f2.f0)))) > 0 then (cohousingref29_Share.l1 k x0 (wrap64 (x15 - (mn (wrap64 (x15 - x0)) (wrap64 (((rd_T43 x16 x20).f1) - ((rd_T43 x16 x20).f2.f0)))))) (x16.set (x20 : Int).toNat (⟨(rd_T43 x16 x20).f0, wrap64 (((rd_T43 x16 x20).f1) - (mn (wrap64 (x15 - x0)) (wrap64 (((rd_T43 x16 x20).f1) - ((rd_T43 x16 x20).f2.f0))))), (⟨(rd_T43 x16 x20).f2.f0, (rd_T43 x16 x20).f2.f1⟩ : S38), (rd_T43 x16 x20).f3⟩ : S43)) (wrap64 (x20 - 1))) else (cohousingref29_Share.l1 k x0 x15 x16 (wrap64 (x20 - 1)))) else (none)) else (none)) else (some (x16, wrap64 (x0 - x15), 0))
end
def cohousingref29_Share.f (k : Nat) (a0 : Int) (a1 : Int) (l2 : List Int) (l3 : List (S38)) : Option ((List (S43)) × Int × Int) := (cohousingref29_Bounds.f k a0 a1 l3).bind fun bt236 => (if bt236.2 = 0 then ((cohousingref29_Homes.f k l2 (l3.length : Int)).bind fun t240 => (if t240 = true then (cohousingref29_Share.l0 k a0 a1 l2 l3 bt236.1 0 0 ([] : List (S43)) 0) else (some (([] : List (S43)), 0, 1)))) else (some (([] : List (S43)), 0, bt236.2)))
theorem cohousingref29_Share.mono_l : ∀ k, (∀ y0 y1 y2 y3 y4 y5 y6 y7 y8, LeO (cohousingref29_Share.l0 k y0 y1 y2 y3 y4 y5 y6 y7 y8) (cohousingref29_Share.l0 (k + 1) y0 y1 y2 y3 y4 y5 y6 y7 y8)) ∧ (∀ y0 y1 y2 y3, LeO (cohousingref29_Share.l1 k y0 y1 y2 y3) (cohousingref29_Share.l1 (k + 1) y0 y1 y2 y3))
 | 0 => ⟨fun _ _ _ _ _ _ _ _ _ r h => by simp [cohousingref29_Share.l0] at h, fun _ _ _ _ r h => by simp [cohousingref29_Share.l1] at h⟩
 | k + 1 => by
  obtain ⟨ih0, ih1⟩ := cohousingref29_Share.mono_l k
  refine ⟨?_, ?_⟩
  ·intro y0 y1 y2 y3 y4 y5 y6 y7 y8
   unfold cohousingref29_Share.l0
   repeat' first
   | (with_reducible exact ih0 _ _ _ _ _ _ _ _ _)
   | (with_reducible exact ih1 _ _ _ _)
   | (with_reducible exact cohousingref29_Bounds.mono _ _ _ _)
   | (with_reducible exact cohousingref29_Homes.mono _ _ _)
   | (with_reducible exact LeO.refl _)
   | (with_reducible exact LeO.none _)
   | (with_reducible refine LeO.ite ?_ ?_)
   | (with_reducible refine LeO.bind ?_ (fun _ => ?_))
   | exact ih0 _ _ _ _ _ _ _ _ _
   | exact ih1 _ _ _ _
   | exact cohousingref29_Bounds.mono _ _ _ _
   | exact cohousingref29_Homes.mono _ _ _
   | exact LeO.none _
   | refine LeO.ite ?_ ?_
   | refine LeO.bind ?_ (fun _ => ?_)
  ·intro y0 y1 y2 y3
   unfold cohousingref29_Share.l1
   repeat' first
   | (with_reducible exact ih0 _ _ _ _ _ _ _ _ _)
   | (with_reducible exact ih1 _ _ _ _)
   | (with_reducible exact cohousingref29_Bounds.mono _ _ _ _)
   | (with_reducible exact cohousingref29_Homes.mono _ _ _)
   | (with_reducible exact LeO.refl _)
   | (with_reducible exact LeO.none _)
   | (with_reducible refine LeO.ite ?_ ?_)
   | (with_reducible refine LeO.bind ?_ (fun _ => ?_))
   | exact ih0 _ _ _ _ _ _ _ _ _
   | exact ih1 _ _ _ _
   | exact cohousingref29_Bounds.mono _ _ _ _
   | exact cohousingref29_Homes.mono _ _ _
   | exact LeO.none _
   | refine LeO.ite ?_ ?_
   | refine LeO.bind ?_ (fun _ => ?_)
theorem cohousingref29_Share.mono : ∀ a0 a1 a2 a3 k, LeO (cohousingref29_Share.f k a0 a1 a2 a3) (cohousingref29_Share.f (k + 1) a0 a1 a2 a3) := by
 intro a0 a1 a2 a3 k
 obtain ⟨ih0, ih1⟩ := cohousingref29_Share.mono_l k
 unfold cohousingref29_Share.f
 repeat' first
   | (with_reducible exact ih0 _ _ _ _ _ _ _ _ _)
   | (with_reducible exact ih1 _ _ _ _)
   | (with_reducible exact cohousingref29_Bounds.mono _ _ _ _)
   | (with_reducible exact cohousingref29_Homes.mono _ _ _)
   | (with_reducible exact LeO.refl _)
   | (with_reducible exact LeO.none _)
   | (with_reducible refine LeO.ite ?_ ?_)
   | (with_reducible refine LeO.bind ?_ (fun _ => ?_))
   | exact ih0 _ _ _ _ _ _ _ _ _
   | exact ih1 _ _ _ _
   | exact cohousingref29_Bounds.mono _ _ _ _
   | exact cohousingref29_Homes.mono _ _ _
   | exact LeO.none _
   | refine LeO.ite ?_ ?_
   | refine LeO.bind ?_ (fun _ => ?_)
end Go.Proofs.Ytbgchacafglcpaa.P
end
section
namespace Go.Proofs.Ytbgchacafglcpaa.P
open Go.RowKit Go.Proofs.YtbgchacafglcpaaW.PrintWords Go.Proofs.YtbgchacafglcpaaW.PrintLast Go.Proofs.YtbgchacafglcpaaW.PrintMore
attribute [local go_sem] max2_int min2_int max_two min_two max_three min_three max_four min_four
set_option linter.unusedVariables false
set_option linter.unusedSimpArgs false
mutual
def cohousingref29_Network.j0 : Nat → Int → List Int → List (S38) → List Int → Int → Bool → Option ((List (S43)) × Int × Int)
 | 0, _, _, _, _, _, _ => none
 | k + 1, x0, x3, x11, x13, x14, x50 => if x50 = true then (some (([] : List (S43)), 0, 1)) else (if 0 ≤ x14 then (if x14 < (x11.length : Int) then (if ((rd_T38 x11 x14).f0) = ((rd_T38 x11 x14).f1) then (cohousingref29_Network.j1 k x0 x3 x11 x13 x14 (((rd_T38 x11 x14).f0) == 0)) else (cohousingref29_Network.j1 k x0 x3 x11 x13 x14 true)) else (none)) else (none))
def cohousingref29_Network.j1 : Nat → Int → List Int → List (S38) → List Int → Int → Bool → Option ((List (S43)) × Int × Int)
 | 0, _, _, _, _, _, _ => none
 | k + 1, x0, x3, x11, x13, x14, x69 => if x69 = true then (some (([] : List (S43)), 0, 3)) else (cohousingref29_Network.l0 k x0 x3 x11 x13 x14 ([] : List (S38)) 0)
def cohousingref29_Network.l0 : Nat → Int → List Int → List (S38) → List Int → Int → List (S38) → Int → Option ((List (S43)) × Int × Int)
 | 0, _, _, _, _, _, _, _ => none
 | k + 1, x0, x3, x11, x13, x14, x17, x18 => if x18 < (x13.length : Int) then (if 0 ≤ x18 then (if 0 ≤ (rd x13 x18) then (if (rd x13 x18) < (x11.length : Int) then (if x17.length < 8796093022208 then (cohousingref29_Network.l0 k x0 x3 x11 x13 x14 (x17 ++ [(⟨(rd_T38 x11 (rd x13 x18)).f0, (rd_T38 x11 (rd x13 x18)).f1⟩ : S38)]) (wrap64 (x18 + 1))) else (none)) else (none)) else (none)) else (none)) else (if 0 ≤ x14 then (if x14 < (x11.length : Int) then ((cohousingref29_Share.f k x0 ((rd_T38 x11 x14).f0) x3 x17).bind fun bt366 => (some (bt366.1, bt366.2.1, bt366.2.2))) else (none)) else (none))
end
def cohousingref29_Network.f (k : Nat) (a0 : Int) (l1 : List (S63)) (l2 : List (S38)) (l3 : List Int) : Option ((List (S43)) × Int × Int) := (cohousingref28_Bounds.f k l1 l2).bind fun bt347 => (if bt347.2 = 0 then ((cohousingref29_Leaves.f k l1).bind fun t351 => ((cohousingref29_Root.f k l1).bind fun t354 => ((cohousingref29_cost.f a0).bind fun t355 => ((cohousingref29_Homes.f k l3 (t351.length : Int)).bind fun t356 => (if t355 = true then (if t356 = true then (cohousingref29_Network.j0 k a0 l3 bt347.1 t351 t354 (decide (t354 < 0))) else (cohousingref29_Network.j0 k a0 l3 bt347.1 t351 t354 true)) else (cohousingref29_Network.j0 k a0 l3 bt347.1 t351 t354 true)))))) else (some (([] : List (S43)), 0, bt347.2)))
theorem cohousingref29_Network.mono_l : ∀ k, (∀ y0 y1 y2 y3 y4 y5, LeO (cohousingref29_Network.j0 k y0 y1 y2 y3 y4 y5) (cohousingref29_Network.j0 (k + 1) y0 y1 y2 y3 y4 y5)) ∧ (∀ y0 y1 y2 y3 y4 y5, LeO (cohousingref29_Network.j1 k y0 y1 y2 y3 y4 y5) (cohousingref29_Network.j1 (k + 1) y0 y1 y2 y3 y4 y5)) ∧ (∀ y0 y1 y2 y3 y4 y5 y6, LeO (cohousingref29_Network.l0 k y0 y1 y2 y3 y4 y5 y6) (cohousingref29_Network.l0 (k + 1) y0 y1 y2 y3 y4 y5 y6))
 | 0 => ⟨fun _ _ _ _ _ _ r h => by simp [cohousingref29_Network.j0] at h, fun _ _ _ _ _ _ r h => by simp [cohousingref29_Network.j1] at h, fun _ _ _ _ _ _ _ r h => by simp [cohousingref29_Network.l0] at h⟩
 | k + 1 => by
  obtain ⟨ih0, ih1, ih2⟩ := cohousingref29_Network.mono_l k
  refine ⟨?_, ?_, ?_⟩
  ·intro y0 y1 y2 y3 y4 y5
   unfold cohousingref29_Network.j0
   repeat' first
   | (with_reducible exact ih0 _ _ _ _ _ _)
   | (with_reducible exact ih1 _ _ _ _ _ _)
   | (with_reducible exact ih2 _ _ _ _ _ _ _)
   | (with_reducible exact cohousingref28_Bounds.mono _ _ _)
   | (with_reducible exact cohousingref29_Homes.mono _ _ _)
   | (with_reducible exact cohousingref29_Leaves.mono _ _)
   | (with_reducible exact cohousingref29_Root.mono _ _)
   | (with_reducible exact cohousingref29_Share.mono _ _ _ _ _)
   | (with_reducible exact LeO.refl _)
   | (with_reducible exact LeO.none _)
   | (with_reducible refine LeO.ite ?_ ?_)
   | (with_reducible refine LeO.bind ?_ (fun _ => ?_))
   | exact ih0 _ _ _ _ _ _
   | exact ih1 _ _ _ _ _ _
   | exact ih2 _ _ _ _ _ _ _
   | exact cohousingref28_Bounds.mono _ _ _
   | exact cohousingref29_Homes.mono _ _ _
   | exact cohousingref29_Leaves.mono _ _
   | exact cohousingref29_Root.mono _ _
   | exact cohousingref29_Share.mono _ _ _ _ _
   | exact LeO.none _
   | refine LeO.ite ?_ ?_
   | refine LeO.bind ?_ (fun _ => ?_)
  ·intro y0 y1 y2 y3 y4 y5
   unfold cohousingref29_Network.j1
   repeat' first
   | (with_reducible exact ih0 _ _ _ _ _ _)
   | (with_reducible exact ih1 _ _ _ _ _ _)
   | (with_reducible exact ih2 _ _ _ _ _ _ _)
   | (with_reducible exact cohousingref28_Bounds.mono _ _ _)
   | (with_reducible exact cohousingref29_Homes.mono _ _ _)
   | (with_reducible exact cohousingref29_Leaves.mono _ _)
   | (with_reducible exact cohousingref29_Root.mono _ _)
   | (with_reducible exact cohousingref29_Share.mono _ _ _ _ _)
   | (with_reducible exact LeO.refl _)
   | (with_reducible exact LeO.none _)
   | (with_reducible refine LeO.ite ?_ ?_)
   | (with_reducible refine LeO.bind ?_ (fun _ => ?_))
   | exact ih0 _ _ _ _ _ _
   | exact ih1 _ _ _ _ _ _
   | exact ih2 _ _ _ _ _ _ _
   | exact cohousingref28_Bounds.mono _ _ _
   | exact cohousingref29_Homes.mono _ _ _
   | exact cohousingref29_Leaves.mono _ _
   | exact cohousingref29_Root.mono _ _
   | exact cohousingref29_Share.mono _ _ _ _ _
   | exact LeO.none _
   | refine LeO.ite ?_ ?_
   | refine LeO.bind ?_ (fun _ => ?_)
  ·intro y0 y1 y2 y3 y4 y5 y6
   unfold cohousingref29_Network.l0
   repeat' first
   | (with_reducible exact ih0 _ _ _ _ _ _)
   | (with_reducible exact ih1 _ _ _ _ _ _)
   | (with_reducible exact ih2 _ _ _ _ _ _ _)
   | (with_reducible exact cohousingref28_Bounds.mono _ _ _)
   | (with_reducible exact cohousingref29_Homes.mono _ _ _)
   | (with_reducible exact cohousingref29_Leaves.mono _ _)
   | (with_reducible exact cohousingref29_Root.mono _ _)
   | (with_reducible exact cohousingref29_Share.mono _ _ _ _ _)
   | (with_reducible exact LeO.refl _)
   | (with_reducible exact LeO.none _)
   | (with_reducible refine LeO.ite ?_ ?_)
   | (with_reducible refine LeO.bind ?_ (fun _ => ?_))
   | exact ih0 _ _ _ _ _ _
   | exact ih1 _ _ _ _ _ _
   | exact ih2 _ _ _ _ _ _ _
   | exact cohousingref28_Bounds.mono _ _ _
   | exact cohousingref29_Homes.mono _ _ _
   | exact cohousingref29_Leaves.mono _ _
   | exact cohousingref29_Root.mono _ _
   | exact cohousingref29_Share.mono _ _ _ _ _
   | exact LeO.none _
   | refine LeO.ite ?_ ?_
   | refine LeO.bind ?_ (fun _ => ?_)
theorem cohousingref29_Network.mono : ∀ a0 a1 a2 a3 k, LeO (cohousingref29_Network.f k a0 a1 a2 a3) (cohousingref29_Network.f (k + 1) a0 a1 a2 a3) := by
 intro a0 a1 a2 a3 k
 obtain ⟨ih0, ih1, ih2⟩ := cohousingref29_Network.mono_l k
 unfold cohousingref29_Network.f
 repeat' first
   | (with_reducible exact ih0 _ _ _ _ _ _)
   | (with_reducible exact ih1 _ _ _ _ _ _)
   | (with_reducible exact ih2 _ _ _ _ _ _ _)
   | (with_reducible exact cohousingref28_Bounds.mono _ _ _)
   | (with_reducible exact cohousingref29_Homes.mono _ _ _)
   | (with_reducible exact cohousingref29_Leaves.mono _ _)
   | (with_reducible exact cohousingref29_Root.mono _ _)
   | (with_reducible exact cohousingref29_Share.mono _ _ _ _ _)
   | (with_reducible exact LeO.refl _)
   | (with_reducible exact LeO.none _)
   | (with_reducible refine LeO.ite ?_ ?_)
   | (with_reducible refine LeO.bind ?_ (fun _ => ?_))
   | exact ih0 _ _ _ _ _ _
   | exact ih1 _ _ _ _ _ _
   | exact ih2 _ _ _ _ _ _ _
   | exact cohousingref28_Bounds.mono _ _ _
   | exact cohousingref29_Homes.mono _ _ _
   | exact cohousingref29_Leaves.mono _ _
   | exact cohousingref29_Root.mono _ _
   | exact cohousingref29_Share.mono _ _ _ _ _
   | exact LeO.none _
   | refine LeO.ite ?_ ?_
   | refine LeO.bind ?_ (fun _ => ?_)
end Go.Proofs.Ytbgchacafglcpaa.P
end
section
namespace Go.Proofs.Ytbgchacafglcpaa.P
open Go.RowKit Go.Proofs.YtbgchacafglcpaaW.PrintWords Go.Proofs.YtbgchacafglcpaaW.PrintLast Go.Proofs.YtbgchacafglcpaaW.PrintMore Go.Proofs.YtbgchacafglcpaaH Go.Proofs.FlowTree
open Classical
theorem gcd5_l0 : ∀ (b a k : Nat), b < k → cohousingref05_gcd.l0 k (a : Int) (b : Int) = some ((Nat.gcd a b : Nat) : Int) := by
 intro b
 induction b using Nat.strongRecOn with
 | ind b ih =>
  intro a k hk
  obtain ⟨k, rfl⟩ : ∃ m, k = m + 1 := ⟨k - 1, by omega⟩
  simp only [cohousingref05_gcd.l0]
  by_cases h : b = 0
  ·subst h
   rw [if_neg (by omega), Nat.gcd_zero_right]
  ·rw [if_pos (by omega), if_neg (by omega), show Int.tmod (a : Int) (b : Int) = ((a % b : Nat) : Int) from by rw [Int.tmod_eq_emod_of_nonneg (by omega)]; rfl]
   rw [ih (a % b) (Nat.mod_lt _ (by omega)) b k (by have := Nat.mod_lt a (show 0 < b by omega); omega)]
   rw [Nat.gcd_comm a b, Nat.gcd_rec b a, Nat.gcd_comm]
theorem common1_l0 : ∀ (b a k : Nat), b < k → cohousingref01_common.l0 k (a : Int) (b : Int) = some ((Nat.gcd a b : Nat) : Int) := by
 intro b
 induction b using Nat.strongRecOn with
 | ind b ih =>
  intro a k hk
  obtain ⟨k, rfl⟩ : ∃ m, k = m + 1 := ⟨k - 1, by omega⟩
  simp only [cohousingref01_common.l0]
  by_cases h : b = 0
  ·subst h
   rw [if_pos (by rfl), Nat.gcd_zero_right]
  ·rw [if_neg (by omega), show Int.tmod (a : Int) (b : Int) = ((a % b : Nat) : Int) from by rw [Int.tmod_eq_emod_of_nonneg (by omega)]; rfl]
   rw [ih (a % b) (Nat.mod_lt _ (by omega)) b k (by have := Nat.mod_lt a (show 0 < b by omega); omega)]
   rw [Nat.gcd_comm a b, Nat.gcd_rec b a, Nat.gcd_comm]
theorem u64_id {n : Int} (h0 : 0 ≤ n) (h1 : n ≤ 9223372036854775807) : IntKind.u64.wrap n = n := by
 simp only [IntKind.wrap, IntKind.signed, IntKind.bits, Bool.false_and, Bool.false_eq_true, if_false]
 omega
theorem size1_f {n : Int} (h0 : 0 ≤ n) (h1 : n ≤ 1000000000) : cohousingref01_size.f n = some n := by
 unfold cohousingref01_size.f
 rw [if_neg (by omega), u64_id h0 (by omega)]
theorem valid1_f {n d : Nat} (h1 : 1 ≤ d) (h2 : d ≤ 1000000000) (h3 : n ≤ d) (hg : Nat.gcd n d = 1) : Ev (fun k => cohousingref01_Valid.f k (n : Int) (d : Int)) true := by
 unfold cohousingref01_Valid.f
 have e1 : ¬ ((d : Int) < 1) := by omega
 simp only [e1, if_false]
 have hm : Ev (fun k => cohousingref01_Make.f k (n : Int) (d : Int)) ((n : Int), (d : Int), 0) := by
  unfold cohousingref01_Make.f
  have e2 : ¬ ((d : Int) = 0) := by omega
  have hcm : Ev (fun k => cohousingref01_common.f k (n : Int) (d : Int)) 1 := ⟨d + 1, fun k hk => by show cohousingref01_common.l0 k (n : Int) (d : Int) = some 1; rw [common1_l0 d n k (by omega), hg]; rfl⟩
  simp only [e2, if_false, size1_f (show 0 ≤ (n : Int) by omega) (by omega), size1_f (show 0 ≤ (d : Int) by omega) (by omega), Option.bind_some]
  refine Ev.bnd hcm ?_
  have e3 : ¬ ((1 : Int) = 0) := by omega
  have e4 : Int.tdiv (n : Int) 1 = n := Int.tdiv_one _
  have e5 : Int.tdiv (d : Int) 1 = d := Int.tdiv_one _
  have e6 : ¬ ((n : Int) > 1000000000) := by omega
  have e7 : decide ((d : Int) > 1000000000) = false := decide_eq_false (by omega)
  have e8 : decide ((n : Int) < 0) = false := decide_eq_false (by omega)
  have e9 : decide ((d : Int) < 0) = false := decide_eq_false (by omega)
  simp only [e3, if_false, e4, e5, u64_id (show 0 ≤ (n : Int) by omega) (by omega), u64_id (show 0 ≤ (d : Int) by omega) (by omega), e6, e7]
  refine Ev.step ?_
  simp only [cohousingref01_Make.j0, Bool.false_eq_true, if_false, e8, e9, bne_self_eq_false, wrap_id' (show -9223372036854775808 ≤ (n : Int) by omega) (by omega), wrap_id' (show -9223372036854775808 ≤ (d : Int) by omega) (by omega)]
  exact Ev.pure _
 refine Ev.bnd hm ?_
 simp only [if_true, beq_self_eq_true, Bool.and_self]
 exact Ev.pure _
theorem amount2_f {c : Int} (h0 : -1000000000 ≤ c) (h1 : c ≤ 1000000000) : cohousingref02_Amount.f c = some true := by
 unfold cohousingref02_Amount.f
 simp [h0, h1]
theorem scale2_f {c : Int} {n d : Nat} (hc : 0 ≤ c) (hc1 : c ≤ 1000000000) (h1 : 1 ≤ d) (h2 : d ≤ 1000000000) (h3 : n ≤ d) (hg : Nat.gcd n d = 1) : Ev (fun k => cohousingref02_Scale.f k c (n : Int) (d : Int)) ((2 * (c * n) + d) / (2 * d), 0) := by
 have hcn0 : 0 ≤ c * n := Int.mul_nonneg hc (by omega)
 have hcn1 : c * n ≤ 1000000000 * d := Int.le_trans (Int.mul_le_mul_of_nonneg_right hc1 (by omega)) (Int.mul_le_mul_of_nonneg_left (by omega) (by omega))
 unfold cohousingref02_Scale.f
 simp only [amount2_f (show -1000000000 ≤ c by omega) hc1, Option.bind_some]
 refine Ev.bnd (valid1_f h1 h2 h3 hg) ?_
 simp only [if_true, Bool.not_true]
 have w1 : wrap64 (c * n) = c * n := wrap_id' (by omega) (by omega)
 have e1 : ¬ ((d : Int) = 0) := by omega
 have e2 : Int.tmod (c * n) d = (c * n) % d := Int.tmod_eq_emod_of_nonneg hcn0
 have e3 : Int.tdiv (c * n) d = (c * n) / d := Int.tdiv_eq_ediv_of_nonneg hcn0
 have hr0 : 0 ≤ (c * n) % d := Int.emod_nonneg _ (by omega)
 have hr1 : (c * n) % d < d := Int.emod_lt_of_pos _ (by omega)
 have hdm : (d : Int) * ((c * n) / d) + (c * n) % d = c * n := Int.mul_ediv_add_emod _ _
 obtain ⟨q, hq⟩ : ∃ q, q = (c * n) / d := ⟨_, rfl⟩
 obtain ⟨r, hr⟩ : ∃ r, r = (c * n) % d := ⟨_, rfl⟩
 have hq0 : 0 ≤ q := by rw [hq]; exact Int.ediv_nonneg hcn0 (by omega)
 have hq1 : q ≤ 1000000000 := by
  have : q < 1000000001 := by rw [hq]; exact Int.ediv_lt_of_lt_mul (by omega) (by omega)
  omega
 rw [← hq, ← hr] at hdm
 rw [← hr] at hr0 hr1
 have hres : (2 * (c * n) + d) / (2 * d) = if 2 * r ≥ d then q + 1 else q := by
  have e : 2 * (c * n) + d = (2 * r + d) + (2 * d) * q := by
   rw [← hdm, Int.mul_add, Int.mul_assoc]; omega
  rw [e, Int.add_mul_ediv_left _ _ (by omega)]
  split
  ·rw [show (2 * r + d) / (2 * (d : Int)) = 1 from by rw [show 2 * r + d = (2 * r - d) + (2 * (d : Int)) * 1 by omega, Int.add_mul_ediv_left _ _ (by omega), Int.ediv_eq_zero_of_lt (by omega) (by omega)]; rfl]; omega
  ·rw [Int.ediv_eq_zero_of_lt (by omega) (by omega)]; omega
 have hfin : (if 2 * r ≥ (d : Int) then q + 1 else q) ≤ 1000000000 ∧ 0 ≤ (if 2 * r ≥ (d : Int) then q + 1 else q) := by
  have hb0 : 0 ≤ (2 * (c * n) + d) / (2 * d) := Int.ediv_nonneg (by omega) (by omega)
  have hb1 : (2 * (c * n) + d) / (2 * d) < 1000000001 := Int.ediv_lt_of_lt_mul (by omega) (by omega)
  rw [hres] at hb0 hb1
  omega
 rw [hres]
 refine Ev.step ?_
 have w2 : wrap64 q = q := wrap_id' (by omega) (by omega)
 have e4 : ¬ (r < 0) := by omega
 simp only [cohousingref02_Scale.j0, Bool.false_eq_true, if_false, e1, w1, e2, e3, ← hr, ← hq, w2, e4]
 refine Ev.step ?_
 simp only [cohousingref02_Scale.j1, Bool.false_eq_true, if_false]
 refine Ev.step ?_
 have w3 : wrap64 (2 * r) = 2 * r := wrap_id' (by omega) (by omega)
 by_cases c1 : 2 * r ≥ (d : Int)
 ·rw [if_pos c1] at hfin ⊢
  have c2 : r > 0 := by omega
  have w4 : wrap64 (q + 1) = q + 1 := wrap_id' (by omega) (by omega)
  have c3 : decide (2 * r ≥ (d : Int)) = true := decide_eq_true c1
  simp only [cohousingref02_Scale.j2, c2, if_true, w3, c3]
  refine Ev.step ?_
  simp only [cohousingref02_Scale.j3, if_true, w4, amount2_f (show -1000000000 ≤ q + 1 by omega) hfin.1, Option.bind_some]
  exact Ev.pure _
 ·rw [if_neg c1] at hfin ⊢
  have c3 : decide (2 * r ≥ (d : Int)) = false := decide_eq_false c1
  have hj : Ev (fun k => cohousingref02_Scale.j3 k q false) (q, 0) := by
   refine Ev.step ?_
   simp only [cohousingref02_Scale.j3, Bool.false_eq_true, if_false, amount2_f (show -1000000000 ≤ q by omega) hq1, Option.bind_some, if_true]
   exact Ev.pure _
  by_cases c2 : r > 0
  ·simp only [cohousingref02_Scale.j2, c2, if_true, w3, c3]
   exact hj
  ·simp only [cohousingref02_Scale.j2, c2, if_false]
   exact hj
theorem right_ref {c t v : Int} (hc : 0 ≤ c) (hc1 : c ≤ 1000000000) (ht : 1 ≤ t) (ht1 : t ≤ 1000000000) (hv0 : 0 ≤ v) (hv : v ≤ t) : Ev (fun k => cohousingref29_Right.f k c t v) (rightV c t v) := by
 obtain ⟨t, rfl⟩ := Int.eq_ofNat_of_zero_le (show 0 ≤ t by omega)
 obtain ⟨v, rfl⟩ := Int.eq_ofNat_of_zero_le hv0
 obtain ⟨a, ha⟩ : ∃ a, a = Nat.gcd v t := ⟨_, rfl⟩
 have ha0 : 0 < a := by rw [ha]; exact Nat.gcd_pos_of_pos_right _ (by omega)
 have dt : a ∣ t := by rw [ha]; exact Nat.gcd_dvd_right _ _
 have dv : a ∣ v := by rw [ha]; exact Nat.gcd_dvd_left _ _
 obtain ⟨n, hn⟩ := dv
 obtain ⟨d, hd⟩ := dt
 have en : Int.tdiv (v : Int) (a : Int) = (n : Int) := by rw [Int.tdiv_eq_ediv_of_nonneg (by omega), hn]; exact_mod_cast Nat.mul_div_cancel_left n ha0
 have ed : Int.tdiv (t : Int) (a : Int) = (d : Int) := by rw [Int.tdiv_eq_ediv_of_nonneg (by omega), hd]; exact_mod_cast Nat.mul_div_cancel_left d ha0
 have hd0 : 0 < d := Nat.pos_of_ne_zero (fun e => by rw [e] at hd; omega)
 have hdt : d ≤ t := by rw [hd]; exact Nat.le_mul_of_pos_left d ha0
 have hnd : n ≤ d := Nat.le_of_mul_le_mul_left (by rw [← hn, ← hd]; omega) ha0
 have hco : Nat.gcd n d = 1 := by
  have : a * Nat.gcd n d = a * 1 := by rw [← Nat.gcd_mul_left, ← hn, ← hd, ← ha]; omega
  exact Nat.eq_of_mul_eq_mul_left ha0 this
 have hrv : rightV c t v = (2 * (c * n) + d) / (2 * d) := by
  unfold rightV
  rw [hn, hd]
  have e1 : 2 * (c * ((a * n : Nat) : Int)) + ((a * d : Nat) : Int) = (a : Int) * (2 * (c * n) + d) := by
   rw [Int.natCast_mul, Int.natCast_mul, Int.mul_add, ← Int.mul_assoc c, Int.mul_comm c (a : Int), Int.mul_assoc (a : Int) c, ← Int.mul_assoc 2, Int.mul_comm 2 (a : Int), Int.mul_assoc (a : Int) 2]
  have e2 : 2 * ((a * d : Nat) : Int) = (a : Int) * (2 * d) := by
   rw [Int.natCast_mul, ← Int.mul_assoc, Int.mul_comm 2 (a : Int), Int.mul_assoc]
  rw [e1, e2, Int.mul_ediv_mul_of_pos _ _ (by omega)]
 rw [hrv]
 have hg : Ev (fun k => cohousingref05_gcd.f k (v : Int) (t : Int)) (a : Int) := ⟨t + 1, fun k hk => by show cohousingref05_gcd.l0 k (v : Int) (t : Int) = some (a : Int); rw [gcd5_l0 t v k (by omega), ha]⟩
 have hred : Ev (fun k => cohousingref05_Reduce.f k (v : Int) (t : Int)) ((n : Int), (d : Int)) := by
  unfold cohousingref05_Reduce.f
  have e1 : ¬ ((v : Int) < 0) := by omega
  simp only [e1, if_false]
  refine Ev.bnd hg ?_
  have e2 : ¬ ((a : Int) = 0) := by omega
  simp only [e2, if_false, en, ed, wrap_id' (show -9223372036854775808 ≤ (n : Int) by omega) (by omega), wrap_id' (show -9223372036854775808 ≤ (d : Int) by omega) (by omega)]
  exact Ev.pure _
 unfold cohousingref29_Right.f
 refine Ev.bnd hred ?_
 refine Ev.bnd (scale2_f hc hc1 (by omega) (by omega) hnd hco) ?_
 exact Ev.pure _
end Go.Proofs.Ytbgchacafglcpaa.P
end
section
namespace Go.Proofs.Ytbgchacafglcpaa.P
open Go.RowKit Go.Proofs.YtbgchacafglcpaaW.PrintWords Go.Proofs.YtbgchacafglcpaaW.PrintLast Go.Proofs.YtbgchacafglcpaaW.PrintMore Go.Proofs.YtbgchacafglcpaaH Go.Proofs.FlowTree
open Classical
theorem leaf_ev (p : List PI) (hn : p.length ≤ 200) (i : Nat) (hi : i < p.length) : Ev (fun k => cohousingref28_Leaf.f k p (i : Int)) (decide (kidsAt p p.length i = [])) := by
 unfold cohousingref28_Leaf.f
 refine Ev.bnd (below_f' p hn i hi) ?_
 have e : ((((kidsAt p p.length i).map Int.ofNat).length : Int) == 0) = decide (kidsAt p p.length i = []) := by
  rw [List.length_map]
  cases h : kidsAt p p.length i with
  | nil => simp
  | cons a s => simp; omega
 rw [e]
 exact Ev.pure _
def leavesN (l : List PI) (m : Nat) : List Nat := (List.range m).filter (fun j => decide (kidsAt l l.length j = []))
theorem leavesN_succ (l : List PI) (m : Nat) : leavesN l (m + 1) = leavesN l m ++ (if kidsAt l l.length m = [] then [m] else []) := by
 unfold leavesN
 rw [List.range_succ, List.filter_append]
 congr 1
 by_cases h : kidsAt l l.length m = [] <;> simp [h]
theorem leavesN_len (l : List PI) (m : Nat) : (leavesN l m).length ≤ m := by
 unfold leavesN
 have := List.length_filter_le (fun j => decide (kidsAt l l.length j = [])) (List.range m)
 rw [List.length_range] at this
 exact this
theorem leavesN_mem {l : List PI} {m j : Nat} : j ∈ leavesN l m ↔ j < m ∧ kidsAt l l.length j = [] := by simp [leavesN]
theorem abv_iff {l : List PI} (hok : okL l) {j : Nat} (hj : j < l.length) : abvB l l.length (idP l j) = true ↔ kidsAt l l.length j ≠ [] := by
 unfold abvB
 rw [List.any_eq_true]
 constructor
 ·rintro ⟨i, hi, h⟩ hnil
  have hi' := List.mem_range.1 hi
  have h' : idP l j = abP l i := of_decide_eq_true h
  obtain ⟨j', hj', e⟩ := (hok i hi').2.2.2 (by have := (hok j hj).1; rw [← h']; omega)
  have : j' = j := id_inj (m := l.length) hok (by omega) hj (by rw [e, h'])
  have hm : i ∈ kidsAt l l.length j := kidsAt_mem.2 ⟨hi', by omega, h'.symm⟩
  rw [hnil] at hm
  cases hm
 ·intro hne
  cases hk : kidsAt l l.length j with
  | nil => exact absurd hk hne
  | cons i is =>
   have hm : i ∈ kidsAt l l.length j := by rw [hk]; simp
   have := kidsAt_mem.1 hm
   exact ⟨i, List.mem_range.2 this.1, decide_eq_true this.2.2.symm⟩
theorem parts_at {l : List PI} (hok : okL l) (bs : List RGE) : ∀ m, m ≤ l.length → partsN l bs m = (leavesN l m).map (qq bs) := by
 intro m
 induction m with
 | zero => intro _; rfl
 | succ m ih =>
  intro hm
  have e : partsN l bs (m + 1) = if abvB l l.length (idP l m) = true then partsN l bs m else partsN l bs m ++ [⟨(qq bs m).f0, (qq bs m).f1⟩] := foldl_rng _ _ _
  rw [e, ih (by omega), leavesN_succ]
  by_cases h : kidsAt l l.length m = []
  ·rw [if_neg (fun h2 => (abv_iff hok (by omega)).1 h2 h), if_pos h, List.map_append]
   rfl
  ·rw [if_pos ((abv_iff hok (by omega)).2 h), if_neg h, List.append_nil]
theorem leaves_l0 (l : List PI) (hn : l.length ≤ 200) : ∀ d i : Nat, i + d = l.length → Ev (fun k => cohousingref29_Leaves.l0 k l ((leavesN l i).map Int.ofNat) (i : Int)) ((leavesN l l.length).map Int.ofNat) := by
 intro d
 induction d with
 | zero =>
  intro i hi
  have e : i = l.length := by omega
  subst e
  have h1 : ¬ ((l.length : Int) < (l.length : Int)) := by omega
  refine Ev.step ?_
  simp only [cohousingref29_Leaves.l0, h1, if_false]
  exact Ev.pure _
 | succ d ih =>
  intro i hi
  have h1 : ((i : Int) < (l.length : Int)) := by omega
  have h2 : ((leavesN l i).map Int.ofNat).length < 17592186044416 := by rw [List.length_map]; have := leavesN_len l i; omega
  have hw := wrap_nat (show i ≤ 140737488355328 by omega)
  refine Ev.step ?_
  simp only [cohousingref29_Leaves.l0, h1, if_true]
  refine Ev.bnd (leaf_ev l hn i (by omega)) ?_
  have := ih (i + 1) (by omega)
  rw [leavesN_succ] at this
  by_cases h : kidsAt l l.length i = []
  ·rw [decide_eq_true h]
   rw [if_pos h, List.map_append] at this
   simp only [if_true, h2, hw]
   exact this
  ·rw [decide_eq_false h]
   rw [if_neg h, List.append_nil] at this
   simp only [Bool.false_eq_true, if_false, hw]
   exact this
theorem leaves_ev (l : List PI) (hn : l.length ≤ 200) : Ev (fun k => cohousingref29_Leaves.f k l) ((leavesN l l.length).map Int.ofNat) := leaves_l0 l hn l.length 0 (by omega)
theorem roots_at (l : List PI) (hn : l.length ≤ 5864062014805) : ∀ i, i ≤ l.length → 0 ≤ rootsN l i ∧ rootsN l i ≤ i ∧ (i < l.length → rootsN l (i + 1) = rootsN l i + if abP l i = 0 then 1 else 0) := by
 intro i
 have step : ∀ i, i < l.length → 0 ≤ rootsN l i → rootsN l i ≤ i → rootsN l (i + 1) = rootsN l i + if abP l i = 0 then 1 else 0 := by
  intro i hi h0 h1
  have e : rootsN l (i + 1) = if abP l i = 0 then wrap64 (rootsN l i + 1) else rootsN l i := foldl_rng _ _ _
  rw [e]
  split
  ·rw [wrap_id' (by omega) (by omega)]
  ·omega
 induction i with
 | zero => intro _; exact ⟨Int.le_refl _, Int.le_refl _, fun h => step 0 h (Int.le_refl _) (Int.le_refl _)⟩
 | succ i ih =>
  intro hi
  obtain ⟨h0, h1, h2⟩ := ih (by omega)
  have h3 := h2 (by omega)
  have hb : 0 ≤ rootsN l (i + 1) ∧ rootsN l (i + 1) ≤ ((i + 1 : Nat) : Int) := by rw [h3]; split <;> omega
  exact ⟨hb.1, hb.2, fun h => step (i + 1) h hb.1 hb.2⟩
theorem roots_mono (l : List PI) (hn : l.length ≤ 5864062014805) : ∀ d i, i + d ≤ l.length → rootsN l i ≤ rootsN l (i + d) := by
 intro d
 induction d with
 | zero => intro i _; exact Int.le_refl _
 | succ d ih =>
  intro i h
  have h1 := ih i (by omega)
  have h2 := (roots_at l hn (i + d) (by omega)).2.2 (by omega)
  rw [show i + (d + 1) = i + d + 1 by omega, h2]
  split <;> omega
theorem tot_succ (l : List PI) (bs : List RGE) (i : Nat) : totN l bs (i + 1) = if abP l i = 0 then ⟨(qq bs i).f0, (qq bs i).f1⟩ else totN l bs i := foldl_rng _ _ _
def RootOf (l : List PI) (i : Nat) (r : Int) : Prop := (rootsN l i = 0 ∧ r = -1) ∨ (rootsN l i = 1 ∧ ∃ m : Nat, m < i ∧ r = (m : Int) ∧ abP l m = 0 ∧ ∀ bs : List RGE, totN l bs i = qq bs m)
theorem root_l0 (l : List PI) (hn : l.length ≤ 5864062014805) : ∀ (d i : Nat) (r0 : Int), i + d = l.length → RootOf l i r0 → ∃ r, Ev (fun k => cohousingref29_Root.l0 k l r0 (i : Int)) r ∧ ((rootsN l l.length ≠ 1 ∧ r = -1) ∨ RootOf l l.length r) := by
 intro d
 induction d with
 | zero =>
  intro i r0 hi h
  have e : i = l.length := by omega
  subst e
  have h1 : ¬ ((l.length : Int) < (l.length : Int)) := by omega
  refine ⟨r0, Ev.step ?_, .inr h⟩
  simp only [cohousingref29_Root.l0, h1, if_false]
  exact Ev.pure _
 | succ d ih =>
  intro i r0 hi h
  have h1 : ((i : Int) < (l.length : Int)) := by omega
  have h2 : (0 : Int) ≤ (i : Int) := by omega
  have hw := wrap_nat (show i ≤ 140737488355328 by omega)
  have hs := (roots_at l hn i (by omega)).2.2 (by omega)
  have q : (rd_T63 l (i : Int)).f1 = abP l i := rfl
  by_cases c : abP l i = 0
  ·rw [if_pos c] at hs
   rcases h with ⟨h0, rfl⟩ | ⟨h0, m, hm, rfl, hab, htot⟩
   ·have e1 : ¬ ((-1 : Int) ≥ 0) := by omega
    obtain ⟨r, hr, hR⟩ := ih (i + 1) (i : Int) (by omega) (.inr ⟨by omega, i, Nat.lt_succ_self _, rfl, c, fun bs => by rw [tot_succ, if_pos c]⟩)
    refine ⟨r, Ev.step ?_, hR⟩
    simp only [cohousingref29_Root.l0, h1, h2, if_true, q, c, e1, if_false, hw]
    exact hr
   ·have e1 : ((m : Int) ≥ 0) := by omega
    have hmo := roots_mono l hn (l.length - (i + 1)) (i + 1) (by omega)
    rw [show i + 1 + (l.length - (i + 1)) = l.length by omega] at hmo
    refine ⟨-1, Ev.step ?_, .inl ⟨by omega, rfl⟩⟩
    simp only [cohousingref29_Root.l0, h1, h2, if_true, q, c, e1]
    exact Ev.pure _
  ·rw [if_neg c] at hs
   obtain ⟨r, hr, hR⟩ := ih (i + 1) r0 (by omega) (by
    rcases h with ⟨h0, h'⟩ | ⟨h0, m, hm, h', hab, htot⟩
    ·exact .inl ⟨by omega, h'⟩
    ·exact .inr ⟨by omega, m, by omega, h', hab, fun bs => by rw [tot_succ, if_neg c, htot]⟩)
   refine ⟨r, Ev.step ?_, hR⟩
   simp only [cohousingref29_Root.l0, h1, h2, if_true, q, c, if_false, hw]
   exact hr
theorem root_ev (l : List PI) (hn : l.length ≤ 5864062014805) : ∃ r, Ev (fun k => cohousingref29_Root.f k l) r ∧ ((rootsN l l.length ≠ 1 ∧ r = -1) ∨ (rootsN l l.length = 1 ∧ ∃ m : Nat, m < l.length ∧ r = (m : Int) ∧ abP l m = 0 ∧ ∀ bs : List RGE, totN l bs l.length = qq bs m)) := by
 obtain ⟨r, hr, h⟩ := root_l0 l hn l.length 0 (-1) (by omega) (.inl ⟨rfl, rfl⟩)
 refine ⟨r, hr, ?_⟩
 rcases h with h | h | h
 ·exact .inl h
 ·exact .inl ⟨by rw [h.1]; decide, h.2⟩
 ·exact .inr h
theorem qq_toR (d : List IV) (j : Nat) : qq (d.map toR) j = toR (rv d j) := rr_toR d j
structure NetOk (c : Int) (l : List PI) (known : List RG) (homes : List Int) (q : List CH × Int × Int) (d : List IV) (m : Nat) (p : List CH × Int) : Prop where
 good : Good l known
 bounds : boundsR l known = (d.map toR, 0)
 exact : Exact l (lo9 known) (hi9 known) d
 root : m < l.length
 one : rootsN l l.length = 1
 tot : ∀ bs : List RGE, totN l bs l.length = qq bs m
 same : Lo d m = Hi d m
 pos : 1 ≤ Lo d m
 parts : PartsOk c (Lo d m) ((leavesN l l.length).map (fun j => toR (rv d j)))
 low : LowAt homes c (Lo d m) ((leavesN l l.length).map (fun j => toR (rv d j))) ((leavesN l l.length).map (fun j => toR (rv d j))).length p
 flow : ¬ Lo d m < leastN ((leavesN l l.length).map (fun j => toR (rv d j))) ((leavesN l l.length).map (fun j => toR (rv d j))).length
 res : q = (p.1, c - p.2, 0)
theorem network_ok {c : Int} {l : List PI} {known : List RG} {homes : List Int} (h : (networkC c l known homes).2.2 = 0) : ∃ d m p, NetOk c l known homes (networkC c l known homes) d m p := by
 have hb := boundsR_is l known
 have e0 : (1 : Int) ≠ 0 := by decide
 have e30 : (30 : Int) ≠ 0 := by decide
 generalize hq : boundsR l known = q at hb
 cases hb with
 | arg _ =>
  have : networkC c l known homes = ([], 0, 1) := by unfold networkC; rw [hq, if_neg e0]
  rw [this] at h
  exact absurd h e0
 | flow _ _ =>
  have : networkC c l known homes = ([], 0, 30) := by unfold networkC; rw [hq, if_neg e30]
  rw [this] at h
  exact absurd h e30
 | ok d hg hd =>
  have e1 : networkC c l known homes = (if c < 0 ∨ 1000000000 < c ∨ rootsN l l.length ≠ 1 ∨ homes.length ≠ (partsN l (d.map toR) l.length).length ∨ homesB 0 homes = false then ([], 0, 1)
    else if (totN l (d.map toR) l.length).f0 ≠ (totN l (d.map toR) l.length).f1 ∨ (totN l (d.map toR) l.length).f0 = 0 then ([], 0, 3)
    else shareC c (totN l (d.map toR) l.length).f0 homes (partsN l (d.map toR) l.length)) := by unfold networkC; rw [hq, if_pos rfl]
  rw [e1] at h ⊢
  by_cases c1 : c < 0 ∨ 1000000000 < c ∨ rootsN l l.length ≠ 1 ∨ homes.length ≠ (partsN l (d.map toR) l.length).length ∨ homesB 0 homes = false
  ·rw [if_pos c1] at h; exact absurd h e0
  rw [if_neg c1] at h ⊢
  by_cases c2 : (totN l (d.map toR) l.length).f0 ≠ (totN l (d.map toR) l.length).f1 ∨ (totN l (d.map toR) l.length).f0 = 0
  ·rw [if_pos c2] at h; exact absurd h (by decide)
  rw [if_neg c2] at h ⊢
  have hr1 : rootsN l l.length = 1 := Classical.byContradiction fun hn => c1 (.inr (.inr (.inl hn)))
  obtain ⟨r, _, hR⟩ := root_ev l (by have := hg.n; omega)
  rcases hR with ⟨hne, _⟩ | ⟨_, m, hm, _, hab, htot⟩
  ·exact absurd hr1 hne
  rw [htot, qq_toR] at c2
  have hs : Lo d m = Hi d m := Classical.byContradiction fun hn => c2 (.inl hn)
  have hz : ¬ Lo d m = 0 := fun hn => c2 (.inr hn)
  have hrng := hd.rng m hm
  rw [parts_at hg.ok _ _ (Nat.le_refl _), htot, qq_toR] at h ⊢
  have eP : (leavesN l l.length).map (qq (d.map toR)) = (leavesN l l.length).map (fun j => toR (rv d j)) := List.map_congr_left (fun j _ => qq_toR d j)
  rw [eP] at h ⊢
  have et : (toR (rv d m)).f0 = Lo d m := rfl
  rw [et] at h ⊢
  have hsh := shareC_is c (Lo d m) homes ((leavesN l l.length).map (fun j => toR (rv d j)))
  generalize hq2 : shareC c (Lo d m) homes ((leavesN l l.length).map (fun j => toR (rv d j))) = q2 at hsh h ⊢
  cases hsh with
  | arg _ => exact absurd h e0
  | flow _ _ _ _ => exact absurd h e30
  | ok p hp _ _ hl hlow _ => exact ⟨d, m, p, hg, hq, hd, hm, hr1, htot, hs, by omega, hp, hlow, hl, rfl⟩
end Go.Proofs.Ytbgchacafglcpaa.P
end
