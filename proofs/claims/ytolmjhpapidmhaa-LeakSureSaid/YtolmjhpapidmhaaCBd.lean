/- Part 4 of the base that the seat's proofs share: words, walks and plain laws. -/
import Derived.ArgAppend
import Derived.Below
import Derived.BigQuiet
import Derived.ChangeOld
import Derived.ChangeSlices
import Derived.Deep.AppendLies
import Derived.Deep.CutBlock
import Derived.Deep.DeepCutAuto
import Derived.Deep.Draws
import Derived.Deep.LoopGhost
import Derived.Deep.OwnRows
import Derived.Deep.QuietTactic
import Derived.Deep.RegionHeld3
import Derived.Deep.Slices
import Derived.KernelRfl
import Derived.Laws.BitsLemmas
import Derived.Laws.BytesArg
import Derived.Laws.IdiomCopy
import Derived.Laws.MakeOwn
import Derived.Laws.OwnMore
import Derived.Laws.Rows
import Derived.Laws.Slices
import Derived.Laws.StructEq
import Derived.Lib.AppendStr
import Derived.Lib.BufferOwn
import Derived.Lib.ConvBytes
import Derived.Lib.SliceRun
import Derived.LoopIn
import Derived.LoopNIn
import Derived.Maps.AppendAt
import Derived.Maps.Own
import Derived.OpenShut
import Derived.OrdersHeld
import Derived.OwnWalk
import Derived.OwnWalkIn
import Derived.ProofKit
import Derived.RangeFuncBound
import Derived.RangeFuncCalls
import Derived.RangeFuncLeaves
import Derived.RangeFuncNested
import Derived.RowKit
import Derived.RowKit3
import Derived.ShutString
import Derived.SizedLaws
import Derived.Tactics
import Derived.TacticsInMore
import Derived.Test.YtolmjhpapidmhaaProg
import Derived.WalkKit
import Derived.WideLaws
import Derived.Test.YtolmjhpapidmhaaCBc
set_option linter.unusedVariables false
set_option linter.unusedSimpArgs false
section
namespace Go.Proofs.Ytolmjhpapidmhaa.P
open Go.RowKit Go.Proofs.YtolmjhpapidmhaaW.PrintWords Go.Proofs.YtolmjhpapidmhaaW.PrintLast Go.Proofs.YtolmjhpapidmhaaW.PrintMore
attribute [local go_sem] max2_int min2_int max_two min_two max_three min_three max_four min_four
set_option linter.unusedVariables false
set_option linter.unusedSimpArgs false
set_option maxHeartbeats 8000000
set_option maxRecDepth 100000
section
mutual
def cohousingref28_equation.l0 : Nat → List (S44) → List (S46) → Int → List Int → Int → Int → Int → Option ((List (S46)))
 | 0, _, _, _, _, _, _, _ => none
 | k + 1, x0, x1, x2, x3, x9, x10, x11 => if x11 < (x3.length : Int) then (if 0 ≤ x11 then (if 0 ≤ (rd x3 x11) then (if (rd x3 x11) < (x1.length : Int) then (cohousingref28_equation.l0 k x0 x1 x2 x3 (wrap64 (x9 + ((rd_T46 x1 (rd x3 x11)).f0))) (wrap64 (x10 + ((rd_T46 x1 (rd x3 x11)).f1))) (wrap64 (x11 + 1))) else (none)) else (none)) else (none)) else (if 0 ≤ x2 then (if x2 < (x1.length : Int) then (if x2 < (x0.length : Int) then ((cohousingref28_narrow.f ((rd_T46 x1 x2).f0) ((rd_T46 x1 x2).f1) x9 (wrap64 (x10 + ((rd_T44 x0 x2).f2)))).bind fun bt208 => (cohousingref28_equation.l1 k x0 x1 x2 x9 x10 ([] : List (S46)) 0 bt208.1 bt208.2)) else (none)) else (none)) else (none))
def cohousingref28_equation.l1 : Nat → List (S44) → List (S46) → Int → Int → Int → List (S46) → Int → Int → Int → Option ((List (S46)))
 | 0, _, _, _, _, _, _, _, _, _ => none
 | k + 1, x0, x1, x2, x9, x10, x13, x14, x211000, x211001 => if x14 < (x1.length : Int) then (if 0 ≤ x14 then (if x14 = x2 then (if x14 > x2 then (if x14 < (x0.length : Int) then (if 0 ≤ x2 then (if x2 < (x0.length : Int) then (if ((rd_T44 x0 x14).f1) = ((rd_T44 x0 x2).f0) then ((cohousingref28_narrow.f x211000 x211001 (wrap64 ((wrap64 (x211000 - ((rd_T44 x0 x2).f2))) - (wrap64 (x10 - x211001)))) (wrap64 (x211001 - (wrap64 (x9 - x211000))))).bind fun bt216 => (if x13.length < 8796093022208 then (cohousingref28_equation.l1 k x0 x1 x2 x9 x10 (x13 ++ [(⟨bt216.1, bt216.2⟩ : S46)]) (wrap64 (x14 + 1)) x211000 x211001) else (none))) else (if x13.length < 8796093022208 then (cohousingref28_equation.l1 k x0 x1 x2 x9 x10 (x13 ++ [(⟨x211000, x211001⟩ : S46)]) (wrap64 (x14 + 1)) x211000 x211001) else (none))) else (none)) else (none)) else (none)) else (if x13.length < 8796093022208 then (cohousingref28_equation.l1 k x0 x1 x2 x9 x10 (x13 ++ [(⟨x211000, x211001⟩ : S46)]) (wrap64 (x14 + 1)) x211000 x211001) else (none))) else (if x14 > x2 then (if x14 < (x0.length : Int) then (if 0 ≤ x2 then (if x2 < (x0.length : Int) then (if ((rd_T44 x0 x14).f1) = ((rd_T44 x0 x2).f0) then ((cohousingref28_narrow.f ((rd_T46 x1 x14).f0) ((rd_T46 x1 x14).f1) (wrap64 ((wrap64 (x211000 - ((rd_T44 x0 x2).f2))) - (wrap64 (x10 - ((rd_T46 x1 x14).f1))))) (wrap64 (x211001 - (wrap64 (x9 - ((rd_T46 x1 x14).f0)))))).bind fun bt230 => (if x13.length < 8796093022208 then (cohousingref28_equation.l1 k x0 x1 x2 x9 x10 (x13 ++ [(⟨bt230.1, bt230.2⟩ : S46)]) (wrap64 (x14 + 1)) x211000 x211001) else (none))) else (if x13.length < 8796093022208 then (cohousingref28_equation.l1 k x0 x1 x2 x9 x10 (x13 ++ [(⟨(rd_T46 x1 x14).f0, (rd_T46 x1 x14).f1⟩ : S46)]) (wrap64 (x14 + 1)) x211000 x211001) else (none))) else (none)) else (none)) else (none)) else (if x13.length < 8796093022208 then (cohousingref28_equation.l1 k x0 x1 x2 x9 x10 (x13 ++ [(⟨(rd_T46 x1 x14).f0, (rd_T46 x1 x14).f1⟩ : S46)]) (wrap64 (x14 + 1)) x211000 x211001) else (none)))) else (none)) else (some x13)
end
def cohousingref28_equation.f (k : Nat) (l0 : List (S44)) (l1 : List (S46)) (a2 : Int) (l3 : List Int) : Option ((List (S46))) := cohousingref28_equation.l0 k l0 l1 a2 l3 0 0 0
theorem cohousingref28_equation.mono_l : ∀ k, (∀ y0 y1 y2 y3 y4 y5 y6, LeO (cohousingref28_equation.l0 k y0 y1 y2 y3 y4 y5 y6) (cohousingref28_equation.l0 (k + 1) y0 y1 y2 y3 y4 y5 y6)) ∧ (∀ y0 y1 y2 y3 y4 y5 y6 y7 y8, LeO (cohousingref28_equation.l1 k y0 y1 y2 y3 y4 y5 y6 y7 y8) (cohousingref28_equation.l1 (k + 1) y0 y1 y2 y3 y4 y5 y6 y7 y8))
 | 0 => ⟨fun _ _ _ _ _ _ _ r h => by simp [cohousingref28_equation.l0] at h, fun _ _ _ _ _ _ _ _ _ r h => by simp [cohousingref28_equation.l1] at h⟩
 | k + 1 => by
  obtain ⟨ih0, ih1⟩ := cohousingref28_equation.mono_l k
  refine ⟨?_, ?_⟩
  ·intro y0 y1 y2 y3 y4 y5 y6
   unfold cohousingref28_equation.l0
   repeat' first
   | (with_reducible exact ih0 _ _ _ _ _ _ _)
   | (with_reducible exact ih1 _ _ _ _ _ _ _ _ _)
   | (with_reducible exact LeO.refl _)
   | (with_reducible exact LeO.none _)
   | (with_reducible refine LeO.ite ?_ ?_)
   | (with_reducible refine LeO.bind ?_ (fun _ => ?_))
   | exact ih0 _ _ _ _ _ _ _
   | exact ih1 _ _ _ _ _ _ _ _ _
   | exact LeO.none _
   | refine LeO.ite ?_ ?_
   | refine LeO.bind ?_ (fun _ => ?_)
  ·intro y0 y1 y2 y3 y4 y5 y6 y7 y8
   unfold cohousingref28_equation.l1
   repeat' first
   | (with_reducible exact ih0 _ _ _ _ _ _ _)
   | (with_reducible exact ih1 _ _ _ _ _ _ _ _ _)
   | (with_reducible exact LeO.refl _)
   | (with_reducible exact LeO.none _)
   | (with_reducible refine LeO.ite ?_ ?_)
   | (with_reducible refine LeO.bind ?_ (fun _ => ?_))
   | exact ih0 _ _ _ _ _ _ _
   | exact ih1 _ _ _ _ _ _ _ _ _
   | exact LeO.none _
   | refine LeO.ite ?_ ?_
   | refine LeO.bind ?_ (fun _ => ?_)
theorem cohousingref28_equation.mono : ∀ a0 a1 a2 a3 k, LeO (cohousingref28_equation.f k a0 a1 a2 a3) (cohousingref28_equation.f (k + 1) a0 a1 a2 a3) := by
 intro a0 a1 a2 a3 k
 obtain ⟨ih0, ih1⟩ := cohousingref28_equation.mono_l k
 unfold cohousingref28_equation.f
 repeat' first
   | (with_reducible exact ih0 _ _ _ _ _ _ _)
   | (with_reducible exact ih1 _ _ _ _ _ _ _ _ _)
   | (with_reducible exact LeO.refl _)
   | (with_reducible exact LeO.none _)
   | (with_reducible refine LeO.ite ?_ ?_)
   | (with_reducible refine LeO.bind ?_ (fun _ => ?_))
   | exact ih0 _ _ _ _ _ _ _
   | exact ih1 _ _ _ _ _ _ _ _ _
   | exact LeO.none _
   | refine LeO.ite ?_ ?_
   | refine LeO.bind ?_ (fun _ => ?_)
def cohousingref28_equation.T8 : Bool × List (List Nat × List Nat) := (true, [([], []), ([], []), ([0, 1], [0, 1]), ([2], [2]), ([], []), ([], []), ([], []), ([], []), ([6, 7], [6, 7]), ([8], [8]), ([9], [9]), ([5, 10], [5, 10]), ([3, 4, 11], [3, 4, 11]), ([], []), ([13, 12, 12, 0, 1, 2, 3, 4, 5, 6, 7, 8, 9, 10, 11, 12, 13], [12, 13])])
def cohousingref28_equation.B8 : List Nat := [0, 0, 3, 7, 0, 0, 0, 0, 192, 448, 960, 2016, 4095, 0, 16383]
theorem cohousingref28_equation.tab8 : rtab .any (opsOf Try.f76 8) = cohousingref28_equation.T8 := by kernel_rfl
theorem cohousingref28_equation.bits8 : waitsOk cohousingref28_equation.T8.2 cohousingref28_equation.B8 = true := by kernel_rfl
def cohousingref28_equation.T16 : Bool × List (List Nat × List Nat) := (true, [([], []), ([], []), ([0, 1], [0, 1]), ([2], [2]), ([3], [3]), ([3], [3]), ([4, 5, 3], [3, 4, 5]), ([6, 3], [3, 6]), ([7, 3], [3, 7]), ([3], [3]), ([3], [3]), ([9, 10, 3], [3, 9, 10]), ([11, 3], [3, 11]), ([12, 3], [3, 12]), ([8, 13, 3], [3, 8, 13]), ([3, 14], [3, 14])])
def cohousingref28_equation.B16 : List Nat := [0, 0, 3, 7, 15, 15, 63, 127, 255, 15, 15, 1551, 3599, 7695, 16383, 32767]
theorem cohousingref28_equation.tab16 : rtab .any (opsOf Try.f76 16) = cohousingref28_equation.T16 := by kernel_rfl
theorem cohousingref28_equation.bits16 : waitsOk cohousingref28_equation.T16.2 cohousingref28_equation.B16 = true := by kernel_rfl
def cohousingref28_equation.T17 : Bool × List (List Nat × List Nat) := (true, [([], []), ([], []), ([1], [1]), ([], []), ([], []), ([3, 4], [3, 4]), ([5], [5]), ([6], [6]), ([2, 7], [2, 7]), ([], []), ([], []), ([10], [10]), ([9, 11], [9, 11]), ([8, 12], [8, 12]), ([], []), ([14], [14]), ([], []), ([], []), ([17], [17]), ([16, 18], [16, 18]), ([15, 19], [15, 19]), ([0, 13, 20], [0, 13, 20]), ([21, 21, 0, 1, 2, 3, 4, 5, 6, 7, 8, 9, 10, 11, 12, 13, 14, 15, 16, 17, 18, 19, 20, 21], [21])])
def cohousingref28_equation.B17 : List Nat := [0, 0, 2, 0, 0, 24, 56, 120, 254, 0, 0, 1024, 3584, 8190, 0, 16384, 0, 0, 131072, 458752, 1032192, 2097151, 4194303]
theorem cohousingref28_equation.tab17 : rtab .any (opsOf Try.f76 17) = cohousingref28_equation.T17 := by kernel_rfl
theorem cohousingref28_equation.bits17 : waitsOk cohousingref28_equation.T17.2 cohousingref28_equation.B17 = true := by kernel_rfl
theorem cohousingref28_equation.calls (k : Nat) (A0 : Option Addr) (c0 : Nat) (l0 : List (S44)) (A1 : Option Addr) (c1 : Nat) (l1 : List (S46)) (a2 : Int) (A3 : Option Addr) (c3 : Nat) (l3 : List Int) (r : List (S46)) (w : World) (hr0 : Kd.C k44 w A0 l0.length l0) (hc0 : l0.length ≤ c0) (hr1 : Kd.C k46 w A1 l1.length l1) (hc1 : l1.length ≤ c1) (hr3 : Kd.C (Kd.int .i64) w A3 l3.length l3) (hc3 : l3.length ≤ c3) (h : cohousingref28_equation.f k l0 l1 a2 l3 = some r) :
  Calls Try.prog 76 #[.slice A0 l0.length c0, .slice A1 l1.length c1, .int .i64 a2, .slice A3 l3.length c3] w fun e w' => ∃ v0_ : Value, e = .returned (v0_) ∧ Kd.R k46 46 w' w.heap.size (fun _ => True) v0_ r ∧ Below w.heap.size w w' := by
 have hu46 := Try.underlying46
 have HR0 := Aside0.mk hr0
 have HC0 := Aside0.mk hc0
 clear hr0 hc0
 have HR1 := Aside0.mk hr1
 have HC1 := Aside0.mk hc1
 clear hr1 hc1
 have HR3 := Aside0.mk hr3
 have HC3 := Aside0.mk hc3
 clear hr3 hc3
 have HB := Aside0.mk (Below.refl w.heap.size w)
 have H : (cohousingref28_equation.l0 k l0 l1 a2 l3 0 0 0) = some r := h
 clear h
 have H' := Aside0.mk H
 clear H
 go_enter Try.func76, Try.ntmps76
 go_wp2
 go_loopg [9, 10, 11] k (fun kq v9 v10 v11 w' => ∃ (x9_1 : Int) (x10_1 : Int) (x11_1 : Int), v9 = .int .i64 x9_1 ∧ v10 = .int .i64 x10_1 ∧ v11 = .int .i64 x11_1 ∧ Aside0 (cohousingref28_equation.l0 kq l0 l1 a2 l3 x9_1 x10_1 x11_1 = some r) ∧ Aside0 (kq ≤ k) ∧ Aside0 (Below w.heap.size w w'))
 case atStart => exact ⟨(0), (0), (0), sd_, sd_, sd_, H', ⟨Nat.le_refl _⟩, ⟨by repeat (first | (with_reducible first | exact HB.out | apply below_alloc | apply pw_below_drewN | apply below_drew1) | exact HB.out)⟩⟩
 case round =>
  clear H'
  try clear c1
  try clear p2
  try clear c3
  obtain ⟨x9_1, x10_1, x11_1, rfl, rfl, rfl, HA, HK1, HB⟩ := hrel
  cases gk with
  | zero => exact absurd HA.out (by simp [cohousingref28_equation.l0])
  | succ k1 =>
   have H := HA.out
   clear HA
   simp only [cohousingref28_equation.l0] at H
   by_cases c5 : x11_1 < (l3.length : Int)
   ·rw [if_pos c5] at H
    have c5b0 : decide (x11_1 < (l3.length : Int)) = true := decide_eq_true c5
    clear c5
    by_cases c6 : 0 ≤ x11_1
    ·rw [if_pos c6] at H
     have c6b0 : decide (0 ≤ x11_1) = true := decide_eq_true c6
     clear c6
     by_cases c7 : 0 ≤ (rd l3 x11_1)
     ·rw [if_pos c7] at H
      have c7b0 : decide (0 ≤ (rd l3 x11_1)) = true := decide_eq_true c7
      clear c7
      by_cases c8 : (rd l3 x11_1) < (l1.length : Int)
      ·rw [if_pos c8] at H
       have c8b0 : decide ((rd l3 x11_1) < (l1.length : Int)) = true := decide_eq_true c8
       clear c8
       have H' := Aside0.mk H
       clear H
       have p202 : 0 ≤ (x11_1 : Int) := od_
       have q202 : x11_1 < (l3.length : Int) := od_
       obtain ⟨ad202, e202, hx202_0⟩ := Kd.at_int HR3.out x11_1 p202 q202
       cases e202
       replace hx202_0 := (HB.out.cell (World.block_lt_of_cell? w _ hx202_0)).trans hx202_0
       replace p202 := eq_true p202
       replace q202 := eq_true q202
       have p203 : 0 ≤ ((rd l3 x11_1) : Int) := od_
       have q203 : (rd l3 x11_1) < (l1.length : Int) := od_
       obtain ⟨ad203, e203, hx203_0, hx203_1⟩ := at_T46 HR1.out (rd l3 x11_1) p203 q203
       cases e203
       replace hx203_0 := (HB.out.cell (World.block_lt_of_cell? w _ hx203_0)).trans hx203_0
       replace hx203_1 := (HB.out.cell (World.block_lt_of_cell? w _ hx203_1)).trans hx203_1
       replace p203 := eq_true p203
       replace q203 := eq_true q203
       have p204 : 0 ≤ (x11_1 : Int) := od_
       have q204 : x11_1 < (l3.length : Int) := od_
       obtain ⟨ad204, e204, hx204_0⟩ := Kd.at_int HR3.out x11_1 p204 q204
       obtain rfl : ad202 = ad204 := (by injection e204)
       replace hx204_0 := (HB.out.cell (World.block_lt_of_cell? w _ hx204_0)).trans hx204_0
       replace p204 := eq_true p204
       replace q204 := eq_true q204
       have p205 : 0 ≤ ((rd l3 x11_1) : Int) := od_
       have q205 : (rd l3 x11_1) < (l1.length : Int) := od_
       obtain ⟨ad205, e205, hx205_0, hx205_1⟩ := at_T46 HR1.out (rd l3 x11_1) p205 q205
       obtain rfl : ad203 = ad205 := (by injection e205)
       replace hx205_0 := (HB.out.cell (World.block_lt_of_cell? w _ hx205_0)).trans hx205_0
       replace hx205_1 := (HB.out.cell (World.block_lt_of_cell? w _ hx205_1)).trans hx205_1
       replace p205 := eq_true p205
       replace q205 := eq_true q205
       go_wp2
       go_roundg k1
       case measure => have := HK1.out; omega
       case rel => exact ⟨(wrap64 (x9_1 + ((rd_T46 l1 (rd l3 x11_1)).f0))), (wrap64 (x10_1 + ((rd_T46 l1 (rd l3 x11_1)).f1))), (wrap64 (x11_1 + 1)), sd_, sd_, sd_, H', ⟨by have := HK1.out; omega⟩, ⟨by repeat (first | (with_reducible first | exact HB.out | apply below_alloc | apply pw_below_drewN | apply below_drew1) | exact HB.out)⟩⟩
      ·rw [if_neg c8] at H
       exact absurd H (by simp)
     ·rw [if_neg c7] at H
      exact absurd H (by simp)
    ·rw [if_neg c6] at H
     exact absurd H (by simp)
   ·rw [if_neg c5] at H
    have c5b0 : decide (x11_1 < (l3.length : Int)) = false := decide_eq_false c5
    clear c5
    by_cases c9 : 0 ≤ a2
    ·rw [if_pos c9] at H
     have c9b0 : decide (0 ≤ a2) = true := decide_eq_true c9
     clear c9
     by_cases c10 : a2 < (l1.length : Int)
     ·rw [if_pos c10] at H
      have c10b0 : decide (a2 < (l1.length : Int)) = true := decide_eq_true c10
      clear c10
      by_cases c11 : a2 < (l0.length : Int)
      ·rw [if_pos c11] at H
       have c11b0 : decide (a2 < (l0.length : Int)) = true := decide_eq_true c11
       clear c11
       replace H := Option.bind_eq_some_iff.mp H
       obtain ⟨⟨t208, t209⟩, A120, H⟩ := H
       replace H : (cohousingref28_equation.l1 k1 l0 l1 a2 x9_1 x10_1 ([] : List (S46)) 0 t208 t209) = some r := H
       have A12 := Aside0.mk A120
       clear A120
       have H' := Aside0.mk H
       clear H
       try go_wp2
       have n0_ := Aside0.mk (below_drew1 HB.out)
       clear HB
       have HB := n0_
       clear n0_
       have p206 : 0 ≤ (a2 : Int) := od_
       have q206 : a2 < (l1.length : Int) := od_
       obtain ⟨ad206, e206, hx206_0, hx206_1⟩ := at_T46 HR1.out a2 p206 q206
       have hw206_1 := hx206_1
       have hw206_0 := hx206_0
       cases e206
       replace hx206_0 := (HB.out.cell (World.block_lt_of_cell? w _ hx206_0)).trans hx206_0
       replace hx206_1 := (HB.out.cell (World.block_lt_of_cell? w _ hx206_1)).trans hx206_1
       replace p206 := eq_true p206
       replace q206 := eq_true q206
       have p207 : 0 ≤ (a2 : Int) := od_
       have q207 : a2 < (l0.length : Int) := od_
       obtain ⟨ad207, e207, hx207_0, hx207_1, hx207_2⟩ := at_T44 HR0.out a2 p207 q207
       have hw207_2 := hx207_2
       have hw207_1 := hx207_1
       have hw207_0 := hx207_0
       cases e207
       replace hx207_0 := (HB.out.cell (World.block_lt_of_cell? w _ hx207_0)).trans hx207_0
       replace hx207_1 := (HB.out.cell (World.block_lt_of_cell? w _ hx207_1)).trans hx207_1
       replace hx207_2 := (HB.out.cell (World.block_lt_of_cell? w _ hx207_2)).trans hx207_2
       replace p207 := eq_true p207
       replace q207 := eq_true q207
       refine start_ (n := 15) (S := fun w' => w'.cell? (ad206.add ((a2).toNat * 2)) = some (.int .i64 ((rd_T46 l1 a2).f0)) ∧ w'.cell? ⟨(ad206.add ((a2).toNat * 2)).block, (ad206.add ((a2).toNat * 2)).off + 1, none⟩ = some (.int .i64 ((rd_T46 l1 a2).f1)) ∧ w'.cell? (ad207.add ((a2).toNat * 3)) = some (.int .i64 ((rd_T44 l0 a2).f0)) ∧ w'.cell? ⟨(ad207.add ((a2).toNat * 3)).block, (ad207.add ((a2).toNat * 3)).off + 1, none⟩ = some (.int .i64 ((rd_T44 l0 a2).f1)) ∧ w'.cell? ⟨(ad207.add ((a2).toNat * 3)).block, (ad207.add ((a2).toNat * 3)).off + 2, none⟩ = some (.int .i64 ((rd_T44 l0 a2).f2))) (ds := []) #[n_, n_, n_, n_, n_, n_, n_, n_, n_, n_, n_, n_, n_, n_, n_] (by kernel_rfl) rfl rfl ⟨((HB.out.cell (World.block_lt_of_cell? w _ hw206_0)).trans hw206_0), ((HB.out.cell (World.block_lt_of_cell? w _ hw206_1)).trans hw206_1), ((HB.out.cell (World.block_lt_of_cell? w _ hw207_0)).trans hw207_0), ((HB.out.cell (World.block_lt_of_cell? w _ hw207_1)).trans hw207_1), ((HB.out.cell (World.block_lt_of_cell? w _ hw207_2)).trans hw207_2)⟩ (fun hHeld => ?_); refine with_tabW cohousingref28_equation.tab8 cohousingref28_equation.bits8 (fun HT_ HW_ => ?_)
       generalize wr.drew = w13 at HB hx206_0 hx206_1 hx207_0 hx207_1 hx207_2 hHeld ⊢
       refine pu_ 0 42 (w_ 15 1) rfl HT_ ?_
       refine pu_ 1 43 (w_ 15 3) rfl HT_ ?_
       refine pu_ 2 44 (w_ 15 7) rfl HT_ ?_
       refine pu_ 4 46 (w_ 15 23) rfl HT_ ?_
       refine pu_ 5 47 (w_ 15 55) rfl HT_ ?_
       refine pu_ 6 48 (w_ 15 119) rfl HT_ ?_
       refine pu_ 7 49 (w_ 15 247) rfl HT_ ?_
       refine pu_ 8 50 (w_ 15 503) rfl HT_ ?_
       refine pu_ 9 51 (w_ 15 1015) rfl HT_ ?_
       refine ta_ 3 45 (w_ 15 1023) rfl HT_ HW_ hHeld (by rintro w' ⟨s0, s1, s2, s3, s4⟩; go_simp; with_reducible rfl) ?_
       refine ta_ 10 52 (w_ 15 2047) rfl HT_ HW_ hHeld (by rintro w' ⟨s0, s1, s2, s3, s4⟩; go_simp; with_reducible rfl) ?_
       refine pu_ 11 53 (w_ 15 4095) rfl HT_ ?_
       refine join_ (σ := Nat) 1 #[y_, y_, y_, y_, y_, y_, y_, y_, y_, y_, y_, y_, y_, y_, n_] (fun s_ => [(54, .agg #[.int .i64 t208, .int .i64 t209]), (12, .pointer (some ⟨s_, 0, none⟩))]) (fun s_ w' => (w'.cell? (ad206.add ((a2).toNat * 2)) = some (.int .i64 ((rd_T46 l1 a2).f0)) ∧ w'.cell? ⟨(ad206.add ((a2).toNat * 2)).block, (ad206.add ((a2).toNat * 2)).off + 1, none⟩ = some (.int .i64 ((rd_T46 l1 a2).f1)) ∧ w'.cell? (ad207.add ((a2).toNat * 3)) = some (.int .i64 ((rd_T44 l0 a2).f0)) ∧ w'.cell? ⟨(ad207.add ((a2).toNat * 3)).block, (ad207.add ((a2).toNat * 3)).off + 1, none⟩ = some (.int .i64 ((rd_T44 l0 a2).f1)) ∧ w'.cell? ⟨(ad207.add ((a2).toNat * 3)).block, (ad207.add ((a2).toNat * 3)).off + 2, none⟩ = some (.int .i64 ((rd_T44 l0 a2).f2))) ∧ (w'.heap[s_]? = some (.cells #[.int .i64 0, .int .i64 0] 46 (0, 0))) ∧ (w.heap.size ≤ s_) ∧ (w.heap.size ≤ s_) ∧ (Below w.heap.size w w')) ?_ ?_
       rotate_left
       ·intro hCont
        refine two_ (i := 12) (j := 13) (Ni := some 54) (Nj := some 12) #[y_, y_, y_, y_, y_, y_, y_, y_, y_, y_, y_, y_, y_, n_, n_] #[y_, y_, y_, y_, y_, y_, y_, y_, y_, y_, y_, y_, n_, y_, n_] rfl rfl rfl rfl (two_of HT_.out (by kernel_rfl)) (by decide) (by decide) (fun K hK => ?_) (fun K hK => ?_)
        ·skip
         refine goes_ Try.func77 (by kernel_rfl) rfl #[.agg #[.int .i64 ((rd_T46 l1 a2).f0), .int .i64 ((rd_T46 l1 a2).f1)], .int .i64 x9_1, .int .i64 (wrap64 (x10_1 + ((rd_T44 l0 a2).f2)))] (by rfl) rfl rfl (by (try simp only [List.map_toArray, List.map_cons, List.map_nil]); first | done | rfl | (simp only [List.length_drop, List.length_take]; rfl)) ?_
         with_reducible refine (cohousingref28_narrow.calls ((rd_T46 l1 a2).f0) ((rd_T46 l1 a2).f1) x9_1 (wrap64 (x10_1 + ((rd_T44 l0 a2).f2))) t208 t209 _ A12.out).mono ?_
         rintro e w14 ⟨rfl, hb⟩
         refine ⟨_, rfl, ?_⟩
         have n0_ := Aside0.mk (below_step (bb_ HB) hb)
         clear HB
         have HB := n0_
         clear n0_
         (try clear hb)
         (try clear hb2)
         (try clear hk)
         (try clear hi)
         refine hK.out _ _ ⟨((HB.out.cell (World.block_lt_of_cell? w _ hw206_0)).trans hw206_0), ((HB.out.cell (World.block_lt_of_cell? w _ hw206_1)).trans hw206_1), ((HB.out.cell (World.block_lt_of_cell? w _ hw207_0)).trans hw207_0), ((HB.out.cell (World.block_lt_of_cell? w _ hw207_1)).trans hw207_1), ((HB.out.cell (World.block_lt_of_cell? w _ hw207_2)).trans hw207_2)⟩ (fun hHeld => ?_)
         clear hK K
         refine norm_ (a' := ?_) ?_ ?_
         rotate_left
         ·show Act.put _ (some 54) _ = _
          simp only [Act.put, sI_, s0_, sS_, i64_w, i32_w]
          rfl
         refine one_ (i := 13) (N := some 12) (w_ 15 16383) rfl rfl (one_of HT_.out (by kernel_rfl)) (by decide) (fun K hK => ?_)
         refine box_step ?hg (N := 12) ?hd (cs := #[.int .i64 0, .int .i64 0]) (t := 46) ?hr ?_; (case hd => rfl); (case hg => rfl); (case hr => first | (go_simp; done) | (go_simp; rfl))
         intro gb210 hg w15 hbox hb
         have n0_ := Aside0.mk (below_step (bb_ HB) hb)
         have n1_ := Aside0.mk (hbox)
         have n2_ := Aside0.mk ((by rw [hg]; exact (below_size (bb_ HB)) : w.heap.size ≤ gb210))
         have n3_ := Aside0.mk ((by rw [hg]; exact (below_size (bb_ HB)) : w.heap.size ≤ gb210))
         clear HB
         have HB := n0_
         have BK210 := n1_
         have GW210 := n2_
         have GE210 := n3_
         clear n0_ n1_ n2_ n3_
         clear hb hbox hg
         refine hK.out _ _ ⟨((HB.out.cell (World.block_lt_of_cell? w _ hw206_0)).trans hw206_0), ((HB.out.cell (World.block_lt_of_cell? w _ hw206_1)).trans hw206_1), ((HB.out.cell (World.block_lt_of_cell? w _ hw207_0)).trans hw207_0), ((HB.out.cell (World.block_lt_of_cell? w _ hw207_1)).trans hw207_1), ((HB.out.cell (World.block_lt_of_cell? w _ hw207_2)).trans hw207_2)⟩ (fun hHeld => ?_)
         clear hK K
         refine norm_ (a' := ?_) ?_ ?_
         rotate_left
         ·show Act.put _ (some 12) _ = _
          simp only [Act.put, sI_, s0_, sS_, i64_w, i32_w]
          rfl
         exact norm_ (by simp only [putAll, Act.put, sI_, s0_, sS_]) (hCont (gb210) _ ⟨hHeld, (kk_ BK210), GW210.out, GE210.out, (bs_ HB GE210.out)⟩)
        ·skip
         refine box_step ?hg (N := 12) ?hd (cs := #[.int .i64 0, .int .i64 0]) (t := 46) ?hr ?_; (case hd => rfl); (case hg => rfl); (case hr => first | (go_simp; done) | (go_simp; rfl))
         intro gb210 hg w14 hbox hb
         have n0_ := Aside0.mk (below_step (bb_ HB) hb)
         have n1_ := Aside0.mk (hbox)
         have n2_ := Aside0.mk ((by rw [hg]; exact (below_size (bb_ HB)) : w.heap.size ≤ gb210))
         have n3_ := Aside0.mk ((by rw [hg]; exact (below_size (bb_ HB)) : w.heap.size ≤ gb210))
         clear HB
         have HB := n0_
         have BK210 := n1_
         have GW210 := n2_
         have GE210 := n3_
         clear n0_ n1_ n2_ n3_
         clear hb hbox hg
         refine hK.out _ _ ⟨((HB.out.cell (World.block_lt_of_cell? w _ hw206_0)).trans hw206_0), ((HB.out.cell (World.block_lt_of_cell? w _ hw206_1)).trans hw206_1), ((HB.out.cell (World.block_lt_of_cell? w _ hw207_0)).trans hw207_0), ((HB.out.cell (World.block_lt_of_cell? w _ hw207_1)).trans hw207_1), ((HB.out.cell (World.block_lt_of_cell? w _ hw207_2)).trans hw207_2)⟩ (fun hHeld => ?_)
         clear hK K
         refine norm_ (a' := ?_) ?_ ?_
         rotate_left
         ·show Act.put _ (some 12) _ = _
          simp only [Act.put, sI_, s0_, sS_, i64_w, i32_w]
          rfl
         refine one_ (i := 12) (N := some 54) (w_ 15 16383) rfl rfl (one_of HT_.out (by kernel_rfl)) (by decide) (fun K hK => ?_)
         refine goes_ Try.func77 (by kernel_rfl) rfl #[.agg #[.int .i64 ((rd_T46 l1 a2).f0), .int .i64 ((rd_T46 l1 a2).f1)], .int .i64 x9_1, .int .i64 (wrap64 (x10_1 + ((rd_T44 l0 a2).f2)))] (by rfl) rfl rfl (by (try simp only [List.map_toArray, List.map_cons, List.map_nil]); first | done | rfl | (simp only [List.length_drop, List.length_take]; rfl)) ?_
         with_reducible refine (cohousingref28_narrow.calls ((rd_T46 l1 a2).f0) ((rd_T46 l1 a2).f1) x9_1 (wrap64 (x10_1 + ((rd_T44 l0 a2).f2))) t208 t209 _ A12.out).mono ?_
         rintro e w15 ⟨rfl, hb⟩
         refine ⟨_, rfl, ?_⟩
         have n0_ := Aside0.mk (blk_below (g := gb210) (o := .cells #[.int .i64 0, .int .i64 0] 46 (0, 0)) (kk_ BK210) hb)
         have n1_ := Aside0.mk (below_step (bs_ HB GE210.out) hb)
         clear BK210
         clear HB
         have BK210 := n0_
         have HB := n1_
         clear n0_ n1_
         (try clear hb)
         (try clear hb2)
         (try clear hk)
         (try clear hi)
         refine hK.out _ _ ⟨((HB.out.cell (World.block_lt_of_cell? w _ hw206_0)).trans hw206_0), ((HB.out.cell (World.block_lt_of_cell? w _ hw206_1)).trans hw206_1), ((HB.out.cell (World.block_lt_of_cell? w _ hw207_0)).trans hw207_0), ((HB.out.cell (World.block_lt_of_cell? w _ hw207_1)).trans hw207_1), ((HB.out.cell (World.block_lt_of_cell? w _ hw207_2)).trans hw207_2)⟩ (fun hHeld => ?_)
         clear hK K
         refine norm_ (a' := ?_) ?_ ?_
         rotate_left
         ·show Act.put _ (some 54) _ = _
          simp only [Act.put, sI_, s0_, sS_, i64_w, i32_w]
          rfl
         exact norm_ (by simp only [putAll, Act.put, sI_, s0_, sS_]) (hCont (gb210) _ ⟨hHeld, (kk_ BK210), GW210.out, GE210.out, (bs_ HB GE210.out)⟩)
       rintro gb210 w16 ⟨hS_, h0_, h1_, h2_, h3_⟩
       have n0_ : Aside0 (w16.heap[gb210]? = some (.cells #[.int .i64 0, .int .i64 0] 46 (0, 0))) := ⟨h0_⟩
       have n1_ : Aside0 (w.heap.size ≤ gb210) := ⟨h1_⟩
       have n2_ : Aside0 (w.heap.size ≤ gb210) := ⟨h2_⟩
       have n3_ : Aside0 (Below w.heap.size w w16) := ⟨h3_⟩
       clear HB
       clear h0_ h1_ h2_ h3_
       have BK210 := n0_
       have GW210 := n1_
       have GE210 := n2_
       have HB := n3_
       clear n0_ n1_ n2_ n3_
       have hHeld : w16.cell? (ad206.add ((a2).toNat * 2)) = some (.int .i64 ((rd_T46 l1 a2).f0)) ∧ w16.cell? ⟨(ad206.add ((a2).toNat * 2)).block, (ad206.add ((a2).toNat * 2)).off + 1, none⟩ = some (.int .i64 ((rd_T46 l1 a2).f1)) ∧ w16.cell? (ad207.add ((a2).toNat * 3)) = some (.int .i64 ((rd_T44 l0 a2).f0)) ∧ w16.cell? ⟨(ad207.add ((a2).toNat * 3)).block, (ad207.add ((a2).toNat * 3)).off + 1, none⟩ = some (.int .i64 ((rd_T44 l0 a2).f1)) ∧ w16.cell? ⟨(ad207.add ((a2).toNat * 3)).block, (ad207.add ((a2).toNat * 3)).off + 2, none⟩ = some (.int .i64 ((rd_T44 l0 a2).f2)) := hS_
       refine norm_ (a' := ?_) ?_ ?_
       rotate_left
       ·simp only [putAll, Act.put, sI_, s0_, sS_]
        rfl
       refine one_ (i := 14) (N := none) (w_ 15 32767) rfl rfl (one_of HT_.out (by kernel_rfl)) (by decide) (fun K hK => ?_)
       have hs17 : w16.cell? ⟨gb210, 0, none⟩ = some (.int .i64 0) := (blk_cell BK210.out 0).trans rfl
       have hfs17 := blk_frozen BK210.out 0
       have hs18 : w16.cell? ⟨gb210, 1, none⟩ = some (.int .i64 0) := (blk_cell BK210.out 1).trans rfl
       have hfs18 := blk_frozen BK210.out 1
       refine skip_ (w1 := ?_) (by rfl) rfl ?_ ?_
       rotate_left
       ·go_simp
        rfl
       refine hK.out _ _ ⟨((cell_far (p := ⟨gb210, _, none⟩) (by first | exact Nat.ne_of_lt (Nat.lt_of_lt_of_le (by have := World.block_lt_of_cell? _ _ hw206_0; first | rwa [add_block] at this | exact this) GW210.out) | (rw [add_block]; exact Nat.ne_of_lt (Nat.lt_of_lt_of_le (by have := World.block_lt_of_cell? _ _ hw206_0; first | rwa [add_block] at this | exact this) GW210.out)) | (show (Addr.add _ _).block ≠ _; rw [add_block]; exact Nat.ne_of_lt (Nat.lt_of_lt_of_le (by have := World.block_lt_of_cell? _ _ hw206_0; first | rwa [add_block] at this | exact this) GW210.out)) | (dsimp only; exact Nat.ne_of_lt (Nat.lt_of_lt_of_le (by have := World.block_lt_of_cell? _ _ hw206_0; first | rwa [add_block] at this | exact this) GW210.out))) _).trans (((cell_far (p := ⟨gb210, _, none⟩) (by first | exact Nat.ne_of_lt (Nat.lt_of_lt_of_le (by have := World.block_lt_of_cell? _ _ hw206_0; first | rwa [add_block] at this | exact this) GW210.out) | (rw [add_block]; exact Nat.ne_of_lt (Nat.lt_of_lt_of_le (by have := World.block_lt_of_cell? _ _ hw206_0; first | rwa [add_block] at this | exact this) GW210.out)) | (show (Addr.add _ _).block ≠ _; rw [add_block]; exact Nat.ne_of_lt (Nat.lt_of_lt_of_le (by have := World.block_lt_of_cell? _ _ hw206_0; first | rwa [add_block] at this | exact this) GW210.out)) | (dsimp only; exact Nat.ne_of_lt (Nat.lt_of_lt_of_le (by have := World.block_lt_of_cell? _ _ hw206_0; first | rwa [add_block] at this | exact this) GW210.out))) _).trans (hHeld.1)))), ((cell_far (p := ⟨gb210, _, none⟩) (by first | exact Nat.ne_of_lt (Nat.lt_of_lt_of_le (by have := World.block_lt_of_cell? _ _ hw206_1; first | rwa [add_block] at this | exact this) GW210.out) | (rw [add_block]; exact Nat.ne_of_lt (Nat.lt_of_lt_of_le (by have := World.block_lt_of_cell? _ _ hw206_1; first | rwa [add_block] at this | exact this) GW210.out)) | (show (Addr.add _ _).block ≠ _; rw [add_block]; exact Nat.ne_of_lt (Nat.lt_of_lt_of_le (by have := World.block_lt_of_cell? _ _ hw206_1; first | rwa [add_block] at this | exact this) GW210.out)) | (dsimp only; exact Nat.ne_of_lt (Nat.lt_of_lt_of_le (by have := World.block_lt_of_cell? _ _ hw206_1; first | rwa [add_block] at this | exact this) GW210.out))) _).trans (((cell_far (p := ⟨gb210, _, none⟩) (by first | exact Nat.ne_of_lt (Nat.lt_of_lt_of_le (by have := World.block_lt_of_cell? _ _ hw206_1; first | rwa [add_block] at this | exact this) GW210.out) | (rw [add_block]; exact Nat.ne_of_lt (Nat.lt_of_lt_of_le (by have := World.block_lt_of_cell? _ _ hw206_1; first | rwa [add_block] at this | exact this) GW210.out)) | (show (Addr.add _ _).block ≠ _; rw [add_block]; exact Nat.ne_of_lt (Nat.lt_of_lt_of_le (by have := World.block_lt_of_cell? _ _ hw206_1; first | rwa [add_block] at this | exact this) GW210.out)) | (dsimp only; exact Nat.ne_of_lt (Nat.lt_of_lt_of_le (by have := World.block_lt_of_cell? _ _ hw206_1; first | rwa [add_block] at this | exact this) GW210.out))) _).trans (hHeld.2.1)))), ((cell_far (p := ⟨gb210, _, none⟩) (by first | exact Nat.ne_of_lt (Nat.lt_of_lt_of_le (by have := World.block_lt_of_cell? _ _ hw207_0; first | rwa [add_block] at this | exact this) GW210.out) | (rw [add_block]; exact Nat.ne_of_lt (Nat.lt_of_lt_of_le (by have := World.block_lt_of_cell? _ _ hw207_0; first | rwa [add_block] at this | exact this) GW210.out)) | (show (Addr.add _ _).block ≠ _; rw [add_block]; exact Nat.ne_of_lt (Nat.lt_of_lt_of_le (by have := World.block_lt_of_cell? _ _ hw207_0; first | rwa [add_block] at this | exact this) GW210.out)) | (dsimp only; exact Nat.ne_of_lt (Nat.lt_of_lt_of_le (by have := World.block_lt_of_cell? _ _ hw207_0; first | rwa [add_block] at this | exact this) GW210.out))) _).trans (((cell_far (p := ⟨gb210, _, none⟩) (by first | exact Nat.ne_of_lt (Nat.lt_of_lt_of_le (by have := World.block_lt_of_cell? _ _ hw207_0; first | rwa [add_block] at this | exact this) GW210.out) | (rw [add_block]; exact Nat.ne_of_lt (Nat.lt_of_lt_of_le (by have := World.block_lt_of_cell? _ _ hw207_0; first | rwa [add_block] at this | exact this) GW210.out)) | (show (Addr.add _ _).block ≠ _; rw [add_block]; exact Nat.ne_of_lt (Nat.lt_of_lt_of_le (by have := World.block_lt_of_cell? _ _ hw207_0; first | rwa [add_block] at this | exact this) GW210.out)) | (dsimp only; exact Nat.ne_of_lt (Nat.lt_of_lt_of_le (by have := World.block_lt_of_cell? _ _ hw207_0; first | rwa [add_block] at this | exact this) GW210.out))) _).trans (hHeld.2.2.1)))), ((cell_far (p := ⟨gb210, _, none⟩) (by first | exact Nat.ne_of_lt (Nat.lt_of_lt_of_le (by have := World.block_lt_of_cell? _ _ hw207_1; first | rwa [add_block] at this | exact this) GW210.out) | (rw [add_block]; exact Nat.ne_of_lt (Nat.lt_of_lt_of_le (by have := World.block_lt_of_cell? _ _ hw207_1; first | rwa [add_block] at this | exact this) GW210.out)) | (show (Addr.add _ _).block ≠ _; rw [add_block]; exact Nat.ne_of_lt (Nat.lt_of_lt_of_le (by have := World.block_lt_of_cell? _ _ hw207_1; first | rwa [add_block] at this | exact this) GW210.out)) | (dsimp only; exact Nat.ne_of_lt (Nat.lt_of_lt_of_le (by have := World.block_lt_of_cell? _ _ hw207_1; first | rwa [add_block] at this | exact this) GW210.out))) _).trans (((cell_far (p := ⟨gb210, _, none⟩) (by first | exact Nat.ne_of_lt (Nat.lt_of_lt_of_le (by have := World.block_lt_of_cell? _ _ hw207_1; first | rwa [add_block] at this | exact this) GW210.out) | (rw [add_block]; exact Nat.ne_of_lt (Nat.lt_of_lt_of_le (by have := World.block_lt_of_cell? _ _ hw207_1; first | rwa [add_block] at this | exact this) GW210.out)) | (show (Addr.add _ _).block ≠ _; rw [add_block]; exact Nat.ne_of_lt (Nat.lt_of_lt_of_le (by have := World.block_lt_of_cell? _ _ hw207_1; first | rwa [add_block] at this | exact this) GW210.out)) | (dsimp only; exact Nat.ne_of_lt (Nat.lt_of_lt_of_le (by have := World.block_lt_of_cell? _ _ hw207_1; first | rwa [add_block] at this | exact this) GW210.out))) _).trans (hHeld.2.2.2.1)))), ((cell_far (p := ⟨gb210, _, none⟩) (by first | exact Nat.ne_of_lt (Nat.lt_of_lt_of_le (by have := World.block_lt_of_cell? _ _ hw207_2; first | rwa [add_block] at this | exact this) GW210.out) | (rw [add_block]; exact Nat.ne_of_lt (Nat.lt_of_lt_of_le (by have := World.block_lt_of_cell? _ _ hw207_2; first | rwa [add_block] at this | exact this) GW210.out)) | (show (Addr.add _ _).block ≠ _; rw [add_block]; exact Nat.ne_of_lt (Nat.lt_of_lt_of_le (by have := World.block_lt_of_cell? _ _ hw207_2; first | rwa [add_block] at this | exact this) GW210.out)) | (dsimp only; exact Nat.ne_of_lt (Nat.lt_of_lt_of_le (by have := World.block_lt_of_cell? _ _ hw207_2; first | rwa [add_block] at this | exact this) GW210.out))) _).trans (((cell_far (p := ⟨gb210, _, none⟩) (by first | exact Nat.ne_of_lt (Nat.lt_of_lt_of_le (by have := World.block_lt_of_cell? _ _ hw207_2; first | rwa [add_block] at this | exact this) GW210.out) | (rw [add_block]; exact Nat.ne_of_lt (Nat.lt_of_lt_of_le (by have := World.block_lt_of_cell? _ _ hw207_2; first | rwa [add_block] at this | exact this) GW210.out)) | (show (Addr.add _ _).block ≠ _; rw [add_block]; exact Nat.ne_of_lt (Nat.lt_of_lt_of_le (by have := World.block_lt_of_cell? _ _ hw207_2; first | rwa [add_block] at this | exact this) GW210.out)) | (dsimp only; exact Nat.ne_of_lt (Nat.lt_of_lt_of_le (by have := World.block_lt_of_cell? _ _ hw207_2; first | rwa [add_block] at this | exact this) GW210.out))) _).trans (hHeld.2.2.2.2))))⟩ (fun hHeld => ?_)
       clear hK K
       refine done_ (done_of HT_.out (by kernel_rfl)) ?_
       try go_wp2
       go_loopg [13, 14] k1 (fun kq v13 v14 w' => ∃ (x13_2 : List (S46)) (x14_2 : Int), v14 = .int .i64 x14_2 ∧ Aside0 (cohousingref28_equation.l1 kq l0 l1 a2 x9_1 x10_1 x13_2 x14_2 t208 t209 = some r) ∧ Aside0 (kq ≤ k1) ∧ Aside0 (Kd.R k46 46 w' w.heap.size (fun k_ => k_ ≠ gb210) v13 x13_2) ∧ Aside0 (w'.heap[gb210]? = some (.cells #[.int .i64 t208, .int .i64 t209] 46 (0, 0))) ∧ Aside0 (Below w.heap.size w w'))
       case atStart => exact ⟨(([] : List (S46))), (0), sd_, H', ⟨Nat.le_refl _⟩, ⟨by first | exact Kd.R_nil _ _ _ _ _ | exact Kd.N_nil _ _ _ _ _ | exact Kd.V_nil _ _ _ _ _ | exact Kd.Q_nil _ _ _ _ _ | exact Kd.S_nil _ _ _ _ _⟩, ⟨by (with_reducible repeat (first | refine blk_drewN ?_ _ | refine blk_drew ?_ | refine blk_alloc ?_ _)); refine blk_put (cs := #[.int .i64 t208, .int .i64 0]) ?_ 1 _ rfl; (with_reducible repeat (first | refine blk_drewN ?_ _ | refine blk_drew ?_ | refine blk_alloc ?_ _)); refine blk_put (cs := #[.int .i64 0, .int .i64 0]) ?_ 0 _ rfl; (with_reducible repeat (first | refine blk_drewN ?_ _ | refine blk_drew ?_ | refine blk_alloc ?_ _)); exact BK210.out⟩, ⟨by repeat (first | (with_reducible first | exact HB.out | apply below_alloc | apply pw_below_drewN | apply below_drew1 | refine below_set ?_ GE210.out) | exact HB.out)⟩⟩
       case round =>
        clear H'
        try clear c1
        try clear p2
        try clear q2
        try clear hx2
        try clear c3
        try clear c5
        try clear c5b0
        try clear c6
        try clear c6b0
        try clear p6
        try clear c7
        try clear c7b0
        try clear c8
        try clear c8b0
        try clear c9
        try clear c9b0
        try clear c10
        try clear c10b0
        try clear c11
        try clear c11b0
        try clear hx202_0
        try clear hx203_0
        try clear hx203_1
        try clear hx204_0
        try clear hx205_0
        try clear hx205_1
        try clear hx206_0
        try clear hx206_1
        try clear hx207_0
        try clear hx207_1
        try clear hx207_2
        try clear p2
        try clear p202
        try clear p203
        try clear p204
        try clear p205
        try clear p206
        try clear p207
        try clear q202
        try clear q203
        try clear q204
        try clear q205
        try clear q206
        try clear q207
        obtain ⟨x13_2, x14_2, rfl, HA, HK2, HO_13, BK210, HB⟩ := hrel
        cases gk with
        | zero => exact absurd HA.out (by simp [cohousingref28_equation.l1])
        | succ k2 =>
         have H := HA.out
         clear HA
         simp only [cohousingref28_equation.l1] at H
         by_cases c19 : x14_2 < (l1.length : Int)
         ·rw [if_pos c19] at H
          have c19b0 : decide (x14_2 < (l1.length : Int)) = true := decide_eq_true c19
          clear c19
          by_cases c20 : 0 ≤ x14_2
          ·rw [if_pos c20] at H
           have c20b0 : decide (0 ≤ x14_2) = true := decide_eq_true c20
           clear c20
           by_cases c21 : x14_2 = a2
           ·rw [if_pos c21] at H
            have c21b0 : (x14_2 == a2) = true := beq_iff_eq.mpr c21
            have c21b1 : (x14_2 != a2) = false := bne_eq_false_iff_eq.mpr c21
            clear c21
            by_cases c22 : x14_2 > a2
            ·rw [if_pos c22] at H
             have c22b0 : decide (a2 < x14_2) = true := decide_eq_true c22
             clear c22
             by_cases c23 : x14_2 < (l0.length : Int)
             ·rw [if_pos c23] at H
              have c23b0 : decide (x14_2 < (l0.length : Int)) = true := decide_eq_true c23
              clear c23
              by_cases c24 : 0 ≤ a2
              ·rw [if_pos c24] at H
               have c24b0 : decide (0 ≤ a2) = true := decide_eq_true c24
               clear c24
               by_cases c25 : a2 < (l0.length : Int)
               ·rw [if_pos c25] at H
                have c25b0 : decide (a2 < (l0.length : Int)) = true := decide_eq_true c25
                clear c25
                by_cases c26 : ((rd_T44 l0 x14_2).f1) = ((rd_T44 l0 a2).f0)
                ·rw [if_pos c26] at H
                 have c26b0 : (((rd_T44 l0 x14_2).f1) == ((rd_T44 l0 a2).f0)) = true := beq_iff_eq.mpr c26
                 have c26b1 : (((rd_T44 l0 x14_2).f1) != ((rd_T44 l0 a2).f0)) = false := bne_eq_false_iff_eq.mpr c26
                 clear c26
                 replace H := Option.bind_eq_some_iff.mp H
                 obtain ⟨⟨t216, t217⟩, A270, H⟩ := H
                 replace H : (if x13_2.length < 8796093022208 then (cohousingref28_equation.l1 k2 l0 l1 a2 x9_1 x10_1 (x13_2 ++ [(⟨t216, t217⟩ : S46)]) (wrap64 (x14_2 + 1)) t208 t209) else (none)) = some r := H
                 have A27 := Aside0.mk A270
                 clear A270
                 by_cases c28 : x13_2.length < 8796093022208
                 ·rw [if_pos c28] at H
                  have LMc28 := Aside0.mk c28
                  clear c28
                  obtain ⟨y218, hy218⟩ : ∃ y_ : List (S46), y_ = (x13_2 ++ [(⟨t216, t217⟩ : S46)]) := ⟨_, rfl⟩
                  replace H : (cohousingref28_equation.l1 k2 l0 l1 a2 x9_1 x10_1 y218 (wrap64 (x14_2 + 1)) t208 t209) = some r := by first | (rw [hy218]; with_reducible exact H) | (have H2_ := (Option.bind_some _ _).symm.trans H; rw [hy218]; with_reducible exact H2_) | (have H2_ := (Option.bind_some _ _).symm.trans H; with_reducible exact H2_) | with_reducible exact H | (rw [hy218]; exact H) | exact H
                  have Ny218 := Aside0.mk hy218
                  clear hy218
                  have H' := Aside0.mk H
                  clear H
                  have p211 : 0 ≤ (x14_2 : Int) := od_
                  have q211 : x14_2 < (l1.length : Int) := od_
                  obtain ⟨ad211, e211, hx211_0, hx211_1⟩ := at_T46 HR1.out x14_2 p211 q211
                  obtain rfl : ad206 = ad211 := (by injection e211)
                  replace hx211_0 := (HB.out.cell (World.block_lt_of_cell? w _ hx211_0)).trans hx211_0
                  replace hx211_1 := (HB.out.cell (World.block_lt_of_cell? w _ hx211_1)).trans hx211_1
                  replace p211 := eq_true p211
                  replace q211 := eq_true q211
                  try go_wp2_with (first | ((with_reducible refine gate_dst (N := 15) rfl ?_); refine box_event ?hg (N := 15) ?hd (cs := #[.int .i64 0, .int .i64 0]) (t := 46) ?hr ?_; (case hd => rfl); (case hg => rfl); (case hr => first | (go_simp; done) | (go_simp; rfl)); intro gb212 hg w29 hbox hb; have n0_ := Aside0.mk (Kd.R_below (Kd.R_elderB (rr_ HO_13) gb212 (Nat.le_of_eq hg.symm)) hb); have n1_ := Aside0.mk (blk_below (g := gb210) (o := .cells #[.int .i64 t208, .int .i64 t209] 46 (0, 0)) (kk_ BK210) hb); have n2_ := Aside0.mk (below_step (bs_ HB GE210.out) hb); have n3_ := Aside0.mk (hbox); have n4_ := Aside0.mk ((by rw [hg]; exact (below_size (bs_ HB GE210.out)) : w.heap.size ≤ gb212)); have n5_ := Aside0.mk ((by rw [hg]; exact (below_size (bs_ HB GE210.out)) : w.heap.size ≤ gb212)); have n6_ := Aside0.mk ((by rw [hg]; exact Nat.ne_of_lt (blk_lt (g := gb210) (o := .cells #[.int .i64 t208, .int .i64 t209] 46 (0, 0)) (kk_ BK210)) : gb210 ≠ gb212)); have n7_ := Aside0.mk ((by rw [hg]; exact Nat.ne_of_gt (blk_lt (g := gb210) (o := .cells #[.int .i64 t208, .int .i64 t209] 46 (0, 0)) (kk_ BK210)) : gb212 ≠ gb210)); clear HO_13; clear BK210; clear HB; have HO_13 := n0_; have BK210 := n1_; have HB := n2_; have BK212 := n3_; have GW212 := n4_; have GE212 := n5_; have NB210_212 := n6_; have NB212_210 := n7_; clear n0_ n1_ n2_ n3_ n4_ n5_ n6_ n7_; clear hb hbox hg; have hnb30 := NB212_210.out; have hnc30 := NB210_212.out; have hcz31_0 : w29.cell? ⟨gb212, 0, none⟩ = some (.int .i64 0) := (blk_cell BK212.out 0).trans rfl; have hcz31_1 : w29.cell? ⟨gb212, 1, none⟩ = some (.int .i64 0) := (blk_cell BK212.out 1).trans rfl; have hfz31_0 := blk_frozen BK212.out 0; have hfz31_1 := blk_frozen BK212.out 1; have hcz32_0 : w29.cell? ⟨gb210, 0, none⟩ = some (.int .i64 t208) := (blk_cell BK210.out 0).trans rfl; have hcz32_1 : w29.cell? ⟨gb210, 1, none⟩ = some (.int .i64 t209) := (blk_cell BK210.out 1).trans rfl; have hfz32_0 := blk_frozen BK210.out 0; have hfz32_1 := blk_frozen BK210.out 1))
                  have n0_ : Aside0 (Kd.R k46 46 ((((w29.setCell ⟨gb212, 0, none⟩ (.int .i64 ((rd_T46 l1 x14_2).f0))).setCell ⟨gb212, 1, none⟩ (.int .i64 ((rd_T46 l1 x14_2).f1))).setCell ⟨gb212, 0, none⟩ (.int .i64 t208)).setCell ⟨gb212, 1, none⟩ (.int .i64 t209)) w.heap.size (fun k_ => k_ ≠ gb210 ∧ k_ ≠ gb212) u13 x13_2) := ⟨by (with_reducible repeat (first | apply Kd.R_alloc | apply Kd.R_drewN | apply Kd.R_drew)); exact Kd.R_mono (Kd.R_far (p := ⟨gb212, 1, none⟩) (Kd.R_far (p := ⟨gb212, 0, none⟩) (Kd.R_far (p := ⟨gb212, 1, none⟩) (Kd.R_far (p := ⟨gb212, 0, none⟩) (Kd.R_mono HO_13.out (fun k_ hk => (⟨hk, hk.2⟩ : _ ∧ k_ ≠ gb212))) (fun _ hk => hk.2) (.int .i64 ((rd_T46 l1 x14_2).f0))) (fun _ hk => hk.2) (.int .i64 ((rd_T46 l1 x14_2).f1))) (fun _ hk => hk.2) (.int .i64 t208)) (fun _ hk => hk.2) (.int .i64 t209)) (fun _ hk => ⟨hk.1.1, hk.1.2⟩)⟩
                  have n1_ : Aside0 (((((w29.setCell ⟨gb212, 0, none⟩ (.int .i64 ((rd_T46 l1 x14_2).f0))).setCell ⟨gb212, 1, none⟩ (.int .i64 ((rd_T46 l1 x14_2).f1))).setCell ⟨gb212, 0, none⟩ (.int .i64 t208)).setCell ⟨gb212, 1, none⟩ (.int .i64 t209)).heap[gb210]? = some (.cells #[.int .i64 t208, .int .i64 t209] 46 (0, 0))) := ⟨by (with_reducible repeat (first | refine blk_drewN ?_ _ | refine blk_drew ?_ | refine blk_alloc ?_ _)); refine blk_far ?_ NB210_212.out _; (with_reducible repeat (first | refine blk_drewN ?_ _ | refine blk_drew ?_ | refine blk_alloc ?_ _)); refine blk_far ?_ NB210_212.out _; (with_reducible repeat (first | refine blk_drewN ?_ _ | refine blk_drew ?_ | refine blk_alloc ?_ _)); refine blk_far ?_ NB210_212.out _; (with_reducible repeat (first | refine blk_drewN ?_ _ | refine blk_drew ?_ | refine blk_alloc ?_ _)); refine blk_far ?_ NB210_212.out _; (with_reducible repeat (first | refine blk_drewN ?_ _ | refine blk_drew ?_ | refine blk_alloc ?_ _)); exact BK210.out⟩
                  have n2_ : Aside0 (((((w29.setCell ⟨gb212, 0, none⟩ (.int .i64 ((rd_T46 l1 x14_2).f0))).setCell ⟨gb212, 1, none⟩ (.int .i64 ((rd_T46 l1 x14_2).f1))).setCell ⟨gb212, 0, none⟩ (.int .i64 t208)).setCell ⟨gb212, 1, none⟩ (.int .i64 t209)).heap[gb212]? = some (.cells #[.int .i64 t208, .int .i64 t209] 46 (0, 0))) := ⟨by (with_reducible repeat (first | refine blk_drewN ?_ _ | refine blk_drew ?_ | refine blk_alloc ?_ _)); refine blk_put (cs := #[.int .i64 t208, .int .i64 ((rd_T46 l1 x14_2).f1)]) ?_ 1 _ rfl; (with_reducible repeat (first | refine blk_drewN ?_ _ | refine blk_drew ?_ | refine blk_alloc ?_ _)); refine blk_put (cs := #[.int .i64 ((rd_T46 l1 x14_2).f0), .int .i64 ((rd_T46 l1 x14_2).f1)]) ?_ 0 _ rfl; (with_reducible repeat (first | refine blk_drewN ?_ _ | refine blk_drew ?_ | refine blk_alloc ?_ _)); refine blk_put (cs := #[.int .i64 ((rd_T46 l1 x14_2).f0), .int .i64 0]) ?_ 1 _ rfl; (with_reducible repeat (first | refine blk_drewN ?_ _ | refine blk_drew ?_ | refine blk_alloc ?_ _)); refine blk_put (cs := #[.int .i64 0, .int .i64 0]) ?_ 0 _ rfl; (with_reducible repeat (first | refine blk_drewN ?_ _ | refine blk_drew ?_ | refine blk_alloc ?_ _)); exact BK212.out⟩
                  have n3_ : Aside0 (Below w.heap.size w ((((w29.setCell ⟨gb212, 0, none⟩ (.int .i64 ((rd_T46 l1 x14_2).f0))).setCell ⟨gb212, 1, none⟩ (.int .i64 ((rd_T46 l1 x14_2).f1))).setCell ⟨gb212, 0, none⟩ (.int .i64 t208)).setCell ⟨gb212, 1, none⟩ (.int .i64 t209))) := ⟨by repeat (first | (with_reducible first | exact HB.out | apply below_alloc | apply pw_below_drewN | apply below_drew1 | refine below_set ?_ GE210.out | refine below_set ?_ GE212.out) | exact HB.out)⟩
                  (try clear HO_13)
                  (try clear BK210)
                  (try clear BK212)
                  (try clear HB)
                  generalize ((((w29.setCell ⟨gb212, 0, none⟩ (.int .i64 ((rd_T46 l1 x14_2).f0))).setCell ⟨gb212, 1, none⟩ (.int .i64 ((rd_T46 l1 x14_2).f1))).setCell ⟨gb212, 0, none⟩ (.int .i64 t208)).setCell ⟨gb212, 1, none⟩ (.int .i64 t209)) = w33 at n0_ n1_ n2_ n3_ ⊢
                  have HO_13 := n0_
                  have BK210 := n1_
                  have BK212 := n2_
                  have HB := n3_
                  clear n0_ n1_ n2_ n3_
                  have n0_ := Aside0.mk (Kd.R_drew HO_13.out)
                  have n1_ := Aside0.mk (blk_drew BK210.out)
                  have n2_ := Aside0.mk (blk_drew BK212.out)
                  have n3_ := Aside0.mk (below_drew1 HB.out)
                  clear HO_13
                  clear BK210
                  clear BK212
                  clear HB
                  have HO_13 := n0_
                  have BK210 := n1_
                  have BK212 := n2_
                  have HB := n3_
                  clear n0_ n1_ n2_ n3_
                  have p213 : 0 ≤ (x14_2 : Int) := od_
                  have q213 : x14_2 < (l0.length : Int) := od_
                  obtain ⟨ad213, e213, hx213_0, hx213_1, hx213_2⟩ := at_T44 HR0.out x14_2 p213 q213
                  have hw213_2 := hx213_2
                  have hw213_1 := hx213_1
                  have hw213_0 := hx213_0
                  obtain rfl : ad207 = ad213 := (by injection e213)
                  replace hx213_0 := (HB.out.cell (World.block_lt_of_cell? w _ hx213_0)).trans hx213_0
                  replace hx213_1 := (HB.out.cell (World.block_lt_of_cell? w _ hx213_1)).trans hx213_1
                  replace hx213_2 := (HB.out.cell (World.block_lt_of_cell? w _ hx213_2)).trans hx213_2
                  replace p213 := eq_true p213
                  replace q213 := eq_true q213
                  have p214 : 0 ≤ (a2 : Int) := od_
                  have q214 : a2 < (l0.length : Int) := od_
                  obtain ⟨ad214, e214, hx214_0, hx214_1, hx214_2⟩ := at_T44 HR0.out a2 p214 q214
                  have hw214_2 := hx214_2
                  have hw214_1 := hx214_1
                  have hw214_0 := hx214_0
                  obtain rfl : ad207 = ad214 := (by injection e214)
                  replace hx214_0 := (HB.out.cell (World.block_lt_of_cell? w _ hx214_0)).trans hx214_0
                  replace hx214_1 := (HB.out.cell (World.block_lt_of_cell? w _ hx214_1)).trans hx214_1
                  replace hx214_2 := (HB.out.cell (World.block_lt_of_cell? w _ hx214_2)).trans hx214_2
                  replace p214 := eq_true p214
                  replace q214 := eq_true q214
                  refine start_ (n := 16) (S := fun w' => w'.cell? (ad207.add ((x14_2).toNat * 3)) = some (.int .i64 ((rd_T44 l0 x14_2).f0)) ∧ w'.cell? ⟨(ad207.add ((x14_2).toNat * 3)).block, (ad207.add ((x14_2).toNat * 3)).off + 1, none⟩ = some (.int .i64 ((rd_T44 l0 x14_2).f1)) ∧ w'.cell? ⟨(ad207.add ((x14_2).toNat * 3)).block, (ad207.add ((x14_2).toNat * 3)).off + 2, none⟩ = some (.int .i64 ((rd_T44 l0 x14_2).f2)) ∧ w'.cell? (ad207.add ((a2).toNat * 3)) = some (.int .i64 ((rd_T44 l0 a2).f0)) ∧ w'.cell? ⟨(ad207.add ((a2).toNat * 3)).block, (ad207.add ((a2).toNat * 3)).off + 1, none⟩ = some (.int .i64 ((rd_T44 l0 a2).f1)) ∧ w'.cell? ⟨(ad207.add ((a2).toNat * 3)).block, (ad207.add ((a2).toNat * 3)).off + 2, none⟩ = some (.int .i64 ((rd_T44 l0 a2).f2))) (ds := []) #[n_, n_, n_, n_, n_, n_, n_, n_, n_, n_, n_, n_, n_, n_, n_, n_] (by kernel_rfl) rfl rfl ⟨((HB.out.cell (World.block_lt_of_cell? w _ hw213_0)).trans hw213_0), ((HB.out.cell (World.block_lt_of_cell? w _ hw213_1)).trans hw213_1), ((HB.out.cell (World.block_lt_of_cell? w _ hw213_2)).trans hw213_2), ((HB.out.cell (World.block_lt_of_cell? w _ hw214_0)).trans hw214_0), ((HB.out.cell (World.block_lt_of_cell? w _ hw214_1)).trans hw214_1), ((HB.out.cell (World.block_lt_of_cell? w _ hw214_2)).trans hw214_2)⟩ (fun hHeld => ?_); refine with_tabW cohousingref28_equation.tab16 cohousingref28_equation.bits16 (fun HT_ HW_ => ?_)
                  generalize w33.drew = w34 at HO_13 BK210 BK212 HB hx213_0 hx213_1 hx213_2 hx214_0 hx214_1 hx214_2 hHeld ⊢
                  refine pu_ 0 69 (w_ 16 1) rfl HT_ ?_
                  refine pu_ 1 70 (w_ 16 3) rfl HT_ ?_
                  refine pu_ 2 71 (w_ 16 7) rfl HT_ ?_
                  refine pu_ 3 72 (w_ 16 15) rfl HT_ ?_
                  refine pu_ 4 73 (w_ 16 31) rfl HT_ ?_
                  refine pu_ 5 74 (w_ 16 63) rfl HT_ ?_
                  refine pu_ 6 75 (w_ 16 127) rfl HT_ ?_
                  refine pu_ 7 76 (w_ 16 255) rfl HT_ ?_
                  refine pu_ 9 78 (w_ 16 767) rfl HT_ ?_
                  refine pu_ 10 79 (w_ 16 1791) rfl HT_ ?_
                  refine pu_ 11 80 (w_ 16 3839) rfl HT_ ?_
                  refine pu_ 12 81 (w_ 16 7935) rfl HT_ ?_
                  refine ta_ 8 77 (w_ 16 8191) rfl HT_ HW_ hHeld (by rintro w' ⟨s0, s1, s2, s3, s4, s5⟩; go_simp; with_reducible rfl) ?_
                  refine ta_ 13 82 (w_ 16 16383) rfl HT_ HW_ hHeld (by rintro w' ⟨s0, s1, s2, s3, s4, s5⟩; go_simp; with_reducible rfl) ?_
                  refine pu_ 14 83 (w_ 16 32767) rfl HT_ ?_
                  refine pu_ 15 84 (w_ 16 65535) rfl HT_ ?_
                  refine done_ (done_of HT_.out (by kernel_rfl)) ?_
                  try go_wp2
                  have n0_ := Aside0.mk (Kd.R_drew HO_13.out)
                  have n1_ := Aside0.mk (blk_drew BK210.out)
                  have n2_ := Aside0.mk (blk_drew BK212.out)
                  have n3_ := Aside0.mk (below_drew1 HB.out)
                  clear HO_13
                  clear BK210
                  clear BK212
                  clear HB
                  have HO_13 := n0_
                  have BK210 := n1_
                  have BK212 := n2_
                  have HB := n3_
                  clear n0_ n1_ n2_ n3_
                  have p215 : 0 ≤ (a2 : Int) := od_
                  have q215 : a2 < (l0.length : Int) := od_
                  obtain ⟨ad215, e215, hx215_0, hx215_1, hx215_2⟩ := at_T44 HR0.out a2 p215 q215
                  have hw215_2 := hx215_2
                  have hw215_1 := hx215_1
                  have hw215_0 := hx215_0
                  obtain rfl : ad207 = ad215 := (by injection e215)
                  replace hx215_0 := (HB.out.cell (World.block_lt_of_cell? w _ hx215_0)).trans hx215_0
                  replace hx215_1 := (HB.out.cell (World.block_lt_of_cell? w _ hx215_1)).trans hx215_1
                  replace hx215_2 := (HB.out.cell (World.block_lt_of_cell? w _ hx215_2)).trans hx215_2
                  replace p215 := eq_true p215
                  replace q215 := eq_true q215
                  refine start_ (n := 23) (S := fun w' => w'.cell? ⟨gb212, 0, none⟩ = some (.int .i64 t208) ∧ w'.cell? ⟨gb212, 1, none⟩ = some (.int .i64 t209) ∧ w'.cell? ⟨gb210, 0, none⟩ = some (.int .i64 t208) ∧ w'.cell? ⟨gb210, 1, none⟩ = some (.int .i64 t209) ∧ w'.cell? (ad207.add ((a2).toNat * 3)) = some (.int .i64 ((rd_T44 l0 a2).f0)) ∧ w'.cell? ⟨(ad207.add ((a2).toNat * 3)).block, (ad207.add ((a2).toNat * 3)).off + 1, none⟩ = some (.int .i64 ((rd_T44 l0 a2).f1)) ∧ w'.cell? ⟨(ad207.add ((a2).toNat * 3)).block, (ad207.add ((a2).toNat * 3)).off + 2, none⟩ = some (.int .i64 ((rd_T44 l0 a2).f2))) (ds := [22]) #[n_, n_, n_, n_, n_, n_, n_, n_, n_, n_, n_, n_, n_, n_, n_, n_, n_, n_, n_, n_, n_, n_, n_] (by kernel_rfl) rfl rfl ⟨(blk_cell BK212.out 0).trans rfl, (blk_cell BK212.out 1).trans rfl, (blk_cell BK210.out 0).trans rfl, (blk_cell BK210.out 1).trans rfl, ((HB.out.cell (World.block_lt_of_cell? w _ hw215_0)).trans hw215_0), ((HB.out.cell (World.block_lt_of_cell? w _ hw215_1)).trans hw215_1), ((HB.out.cell (World.block_lt_of_cell? w _ hw215_2)).trans hw215_2)⟩ (fun hHeld => ?_); refine with_tabW cohousingref28_equation.tab17 cohousingref28_equation.bits17 (fun HT_ HW_ => ?_)
                  generalize w34.drew = w35 at HO_13 BK210 BK212 HB hx215_0 hx215_1 hx215_2 hHeld ⊢
                  refine pu_ 1 86 (w_ 23 2) rfl HT_ ?_
                  refine pu_ 3 88 (w_ 23 10) rfl HT_ ?_
                  refine pu_ 4 89 (w_ 23 26) rfl HT_ ?_
                  refine pu_ 5 90 (w_ 23 58) rfl HT_ ?_
                  refine pu_ 6 91 (w_ 23 122) rfl HT_ ?_
                  refine pu_ 9 94 (w_ 23 634) rfl HT_ ?_
                  refine pu_ 10 95 (w_ 23 1658) rfl HT_ ?_
                  refine pu_ 14 99 (w_ 23 18042) rfl HT_ ?_
                  refine pu_ 16 101 (w_ 23 83578) rfl HT_ ?_
                  refine pu_ 17 102 (w_ 23 214650) rfl HT_ ?_
                  refine ta_ 0 85 (w_ 23 214651) rfl HT_ HW_ hHeld (by rintro w' ⟨s0, s1, s2, s3, s4, s5, s6⟩; go_simp; with_reducible rfl) ?_
                  refine ta_ 2 87 (w_ 23 214655) rfl HT_ HW_ hHeld (by rintro w' ⟨s0, s1, s2, s3, s4, s5, s6⟩; go_simp; with_reducible rfl) ?_
                  refine ta_ 7 92 (w_ 23 214783) rfl HT_ HW_ hHeld (by rintro w' ⟨s0, s1, s2, s3, s4, s5, s6⟩; go_simp; with_reducible rfl) ?_
                  refine pu_ 8 93 (w_ 23 215039) rfl HT_ ?_
                  refine ta_ 11 96 (w_ 23 217087) rfl HT_ HW_ hHeld (by rintro w' ⟨s0, s1, s2, s3, s4, s5, s6⟩; go_simp; with_reducible rfl) ?_
                  refine pu_ 12 97 (w_ 23 221183) rfl HT_ ?_
                  refine pu_ 13 98 (w_ 23 229375) rfl HT_ ?_
                  refine ta_ 15 100 (w_ 23 262143) rfl HT_ HW_ hHeld (by rintro w' ⟨s0, s1, s2, s3, s4, s5, s6⟩; go_simp; with_reducible rfl) ?_
                  refine ta_ 18 103 (w_ 23 524287) rfl HT_ HW_ hHeld (by rintro w' ⟨s0, s1, s2, s3, s4, s5, s6⟩; go_simp; with_reducible rfl) ?_
                  refine pu_ 19 104 (w_ 23 1048575) rfl HT_ ?_
                  refine pu_ 20 105 (w_ 23 2097151) rfl HT_ ?_
                  refine one_ (i := 21) (N := some 106) (w_ 23 4194303) rfl rfl (one_of HT_.out (by kernel_rfl)) (by decide) (fun K hK => ?_)
                  refine goes_ Try.func77 (by kernel_rfl) rfl #[.agg #[.int .i64 t208, .int .i64 t209], .int .i64 (wrap64 ((wrap64 (t208 - ((rd_T44 l0 a2).f2))) - (wrap64 (x10_1 - t209)))), .int .i64 (wrap64 (t209 - (wrap64 (x9_1 - t208))))] (by rfl) rfl rfl (by (try simp only [List.map_toArray, List.map_cons, List.map_nil]); first | done | rfl | (simp only [List.length_drop, List.length_take]; rfl)) ?_
                  with_reducible refine (cohousingref28_narrow.calls t208 t209 (wrap64 ((wrap64 (t208 - ((rd_T44 l0 a2).f2))) - (wrap64 (x10_1 - t209)))) (wrap64 (t209 - (wrap64 (x9_1 - t208)))) t216 t217 _ A27.out).mono ?_
                  rintro e w36 ⟨rfl, hb⟩
                  refine ⟨_, rfl, ?_⟩
                  have n0_ := Aside0.mk (Kd.R_below (rr_ HO_13) hb)
                  have n1_ := Aside0.mk (blk_below (g := gb210) (o := .cells #[.int .i64 t208, .int .i64 t209] 46 (0, 0)) (kk_ BK210) hb)
                  have n2_ := Aside0.mk (blk_below (g := gb212) (o := .cells #[.int .i64 t208, .int .i64 t209] 46 (0, 0)) (kk_ BK212) hb)
                  have n3_ := Aside0.mk (below_step (by repeat (first | (with_reducible first | exact HB.out | apply below_alloc | apply pw_below_drewN | apply below_drew1 | refine below_set ?_ GE210.out | refine below_set ?_ GE212.out) | exact HB.out)) hb)
                  clear HO_13
                  clear BK210
                  clear BK212
                  clear HB
                  have HO_13 := n0_
                  have BK210 := n1_
                  have BK212 := n2_
                  have HB := n3_
                  clear n0_ n1_ n2_ n3_
                  (try clear hb)
                  (try clear hb2)
                  (try clear hk)
                  (try clear hi)
                  refine hK.out _ _ ⟨(blk_cell BK212.out 0).trans rfl, (blk_cell BK212.out 1).trans rfl, (blk_cell BK210.out 0).trans rfl, (blk_cell BK210.out 1).trans rfl, ((HB.out.cell (World.block_lt_of_cell? w _ hw215_0)).trans hw215_0), ((HB.out.cell (World.block_lt_of_cell? w _ hw215_1)).trans hw215_1), ((HB.out.cell (World.block_lt_of_cell? w _ hw215_2)).trans hw215_2)⟩ (fun hHeld => ?_)
                  clear hK K
                  refine norm_ (a' := ?_) ?_ ?_
                  rotate_left
                  ·show Act.put _ (some 106) _ = _
                   simp only [Act.put, sI_, s0_, sS_, i64_w, i32_w]
                   rfl
                  refine last_ (i := 22) (N := none) (w_ 23 8388607) rfl rfl (one_of HT_.out (by kernel_rfl)) (by decide) (fun K hK => ?_)
                  have hs37 : w36.cell? ⟨gb212, 0, none⟩ = some (.int .i64 t208) := (blk_cell BK212.out 0).trans rfl
                  have hfs37 := blk_frozen BK212.out 0
                  have hns37_0 := NB210_212.out
                  have hms37_0 := NB212_210.out
                  have hs38 : w36.cell? ⟨gb212, 1, none⟩ = some (.int .i64 t209) := (blk_cell BK212.out 1).trans rfl
                  have hfs38 := blk_frozen BK212.out 1
                  have hns38_0 := NB210_212.out
                  have hms38_0 := NB212_210.out
                  refine skip_ (w1 := ?_) (by rfl) rfl ?_ ?_
                  rotate_left
                  ·go_simp
                   rfl
                  refine hK.out _ _ ?_
                  clear hK K
                  refine done_ (done_of HT_.out (by kernel_rfl)) ?_
                  have hcz39_0 : w36.cell? ⟨gb212, 0, none⟩ = some (.int .i64 t208) := (blk_cell BK212.out 0).trans rfl
                  have hcz39_1 : w36.cell? ⟨gb212, 1, none⟩ = some (.int .i64 t209) := (blk_cell BK212.out 1).trans rfl
                  have hfz39_0 := blk_frozen BK212.out 0
                  have hfz39_1 := blk_frozen BK212.out 1
                  try go_wp2_with (first | ((with_reducible refine gate_builtin (b := .append) (xs := #[.tmp 107, .tmp 109]) rfl ?_); at_builtin; refine Kd.R_append k46 (w0 := w) w.heap.size rfl (.tmp 107) (.tmp 109) 23 46 (.agg #[(.int .i64 0), (.int .i64 0)]) 16 rfl Try.underlying23 info46 rfl (by decide) (by omega) u13 x13_2 (⟨t216, t217⟩ : S46) [.int .i64 t216, .int .i64 t217] (fun k_ => k_ ≠ gb210 ∧ k_ ≠ gb212) (fun _ => False) rfl (by first | (go_simp; done) | (go_simp; rfl)) ?aP (fun _ hk => hk.elim) ?aF ?aO ?aB ?aS ?aL ?_; (case aP => exact k46_mkM _ _ _ (⟨t216, t217⟩ : S46)); (case aB => exact (by repeat (first | (with_reducible first | exact HB.out | apply below_alloc | apply pw_below_drewN | apply below_drew1 | refine below_set ?_ GE210.out | refine below_set ?_ GE212.out) | exact HB.out))); (case aF => exact (fun k_ hk => ⟨Kd.freshB (g := gb210) (o := .cells #[.int .i64 t208, .int .i64 t209] 46 (0, 0)) (by (with_reducible repeat (first | refine blk_drewN ?_ _ | refine blk_drew ?_ | refine blk_alloc ?_ _)); refine blk_far ?_ NB210_212.out _; (with_reducible repeat (first | refine blk_drewN ?_ _ | refine blk_drew ?_ | refine blk_alloc ?_ _)); refine blk_far ?_ NB210_212.out _; (with_reducible repeat (first | refine blk_drewN ?_ _ | refine blk_drew ?_ | refine blk_alloc ?_ _)); exact BK210.out) k_ hk, Kd.freshB (g := gb212) (o := .cells #[.int .i64 t216, .int .i64 t217] 46 (0, 0)) (by (with_reducible repeat (first | refine blk_drewN ?_ _ | refine blk_drew ?_ | refine blk_alloc ?_ _)); refine blk_put (cs := #[.int .i64 t216, .int .i64 t209]) ?_ 1 _ rfl; (with_reducible repeat (first | refine blk_drewN ?_ _ | refine blk_drew ?_ | refine blk_alloc ?_ _)); refine blk_put (cs := #[.int .i64 t208, .int .i64 t209]) ?_ 0 _ rfl; (with_reducible repeat (first | refine blk_drewN ?_ _ | refine blk_drew ?_ | refine blk_alloc ?_ _)); exact BK212.out) k_ hk⟩)); (case aO => exact (by (with_reducible repeat (first | apply Kd.R_alloc | apply Kd.R_drewN | apply Kd.R_drew)); exact Kd.R_mono (Kd.R_far (p := ⟨gb212, 1, none⟩) (Kd.R_far (p := ⟨gb212, 0, none⟩) (Kd.R_mono HO_13.out (fun k_ hk => (⟨hk, hk.2⟩ : _ ∧ k_ ≠ gb212))) (fun _ hk => hk.2) (.int .i64 t216)) (fun _ hk => hk.2) (.int .i64 t217)) (fun _ hk => ⟨hk.1.1, hk.1.2⟩))); (case aS => exact (below_size (by repeat (first | (with_reducible first | exact HB.out | apply below_alloc | apply pw_below_drewN | apply below_drew1 | refine below_set ?_ GE210.out | refine below_set ?_ GE212.out) | exact HB.out)))); (case aL => have := LMc28.out; omega); intro v219 w40 ho hb hg hat; rw [← Ny218.out] at ho; have n0_ := Aside0.mk (blk_grown (g := gb210) (o := .cells #[.int .i64 t208, .int .i64 t209] 46 (0, 0)) (by (with_reducible repeat (first | refine blk_drewN ?_ _ | refine blk_drew ?_ | refine blk_alloc ?_ _)); refine blk_far ?_ NB210_212.out _; (with_reducible repeat (first | refine blk_drewN ?_ _ | refine blk_drew ?_ | refine blk_alloc ?_ _)); refine blk_far ?_ NB210_212.out _; (with_reducible repeat (first | refine blk_drewN ?_ _ | refine blk_drew ?_ | refine blk_alloc ?_ _)); exact BK210.out) hg (Kd.R_away HO_13.out (fun _ hk => hk.1))); have n1_ := Aside0.mk (blk_grown (g := gb212) (o := .cells #[.int .i64 t216, .int .i64 t217] 46 (0, 0)) (by (with_reducible repeat (first | refine blk_drewN ?_ _ | refine blk_drew ?_ | refine blk_alloc ?_ _)); refine blk_put (cs := #[.int .i64 t216, .int .i64 t209]) ?_ 1 _ rfl; (with_reducible repeat (first | refine blk_drewN ?_ _ | refine blk_drew ?_ | refine blk_alloc ?_ _)); refine blk_put (cs := #[.int .i64 t208, .int .i64 t209]) ?_ 0 _ rfl; (with_reducible repeat (first | refine blk_drewN ?_ _ | refine blk_drew ?_ | refine blk_alloc ?_ _)); exact BK212.out) hg (Kd.R_away HO_13.out (fun _ hk => hk.2))); have n2_ := Aside0.mk (hb); have n3_ := Aside0.mk (ho); clear BK210; clear BK212; clear HB; clear HO_13; have BK210 := n0_; have BK212 := n1_; have HB := n2_; have HO220 := n3_; clear n0_ n1_ n2_ n3_; clear ho hb hg hat))
                  go_roundg k2
                  case measure => have := HK1.out; have := HK2.out; omega
                  case rel => exact ⟨(y218), (wrap64 (x14_2 + 1)), sd_, H', ⟨by have := HK1.out; have := HK2.out; omega⟩, ⟨by (with_reducible repeat (first | apply Kd.R_alloc | apply Kd.R_drewN | apply Kd.R_drew)); exact Kd.R_mono HO220.out (fun _ hk => hk.1)⟩, ⟨by (with_reducible repeat (first | refine blk_drewN ?_ _ | refine blk_drew ?_ | refine blk_alloc ?_ _)); exact BK210.out⟩, ⟨by repeat (first | (with_reducible first | exact HB.out | apply below_alloc | apply pw_below_drewN | apply below_drew1 | refine below_set ?_ GE210.out | refine below_set ?_ GE212.out) | exact HB.out)⟩⟩
                 ·rw [if_neg c28] at H
                  exact absurd H (by simp)
                ·rw [if_neg c26] at H
                 have c26b0 : (((rd_T44 l0 x14_2).f1) == ((rd_T44 l0 a2).f0)) = false := beq_eq_false_iff_ne.mpr c26
                 have c26b1 : (((rd_T44 l0 x14_2).f1) != ((rd_T44 l0 a2).f0)) = true := bne_iff_ne.mpr c26
                 by_cases c41 : x13_2.length < 8796093022208
                 ·rw [if_pos c41] at H
                  have LMc41 := Aside0.mk c41
                  clear c41
                  obtain ⟨y221, hy221⟩ : ∃ y_ : List (S46), y_ = (x13_2 ++ [(⟨t208, t209⟩ : S46)]) := ⟨_, rfl⟩
                  replace H : (cohousingref28_equation.l1 k2 l0 l1 a2 x9_1 x10_1 y221 (wrap64 (x14_2 + 1)) t208 t209) = some r := by first | (rw [hy221]; with_reducible exact H) | (have H2_ := (Option.bind_some _ _).symm.trans H; rw [hy221]; with_reducible exact H2_) | (have H2_ := (Option.bind_some _ _).symm.trans H; with_reducible exact H2_) | with_reducible exact H | (rw [hy221]; exact H) | exact H
                  have Ny221 := Aside0.mk hy221
                  clear hy221
                  have H' := Aside0.mk H
                  clear H
                  have p211 : 0 ≤ (x14_2 : Int) := od_
                  have q211 : x14_2 < (l1.length : Int) := od_
                  obtain ⟨ad211, e211, hx211_0, hx211_1⟩ := at_T46 HR1.out x14_2 p211 q211
                  obtain rfl : ad206 = ad211 := (by injection e211)
                  replace hx211_0 := (HB.out.cell (World.block_lt_of_cell? w _ hx211_0)).trans hx211_0
                  replace hx211_1 := (HB.out.cell (World.block_lt_of_cell? w _ hx211_1)).trans hx211_1
                  replace p211 := eq_true p211
                  replace q211 := eq_true q211
                  try go_wp2_with (first | ((with_reducible refine gate_dst (N := 15) rfl ?_); refine box_event ?hg (N := 15) ?hd (cs := #[.int .i64 0, .int .i64 0]) (t := 46) ?hr ?_; (case hd => rfl); (case hg => rfl); (case hr => first | (go_simp; done) | (go_simp; rfl)); intro gb212 hg w42 hbox hb; have n0_ := Aside0.mk (Kd.R_below (Kd.R_elderB (rr_ HO_13) gb212 (Nat.le_of_eq hg.symm)) hb); have n1_ := Aside0.mk (blk_below (g := gb210) (o := .cells #[.int .i64 t208, .int .i64 t209] 46 (0, 0)) (kk_ BK210) hb); have n2_ := Aside0.mk (below_step (bs_ HB GE210.out) hb); have n3_ := Aside0.mk (hbox); have n4_ := Aside0.mk ((by rw [hg]; exact (below_size (bs_ HB GE210.out)) : w.heap.size ≤ gb212)); have n5_ := Aside0.mk ((by rw [hg]; exact (below_size (bs_ HB GE210.out)) : w.heap.size ≤ gb212)); have n6_ := Aside0.mk ((by rw [hg]; exact Nat.ne_of_lt (blk_lt (g := gb210) (o := .cells #[.int .i64 t208, .int .i64 t209] 46 (0, 0)) (kk_ BK210)) : gb210 ≠ gb212)); have n7_ := Aside0.mk ((by rw [hg]; exact Nat.ne_of_gt (blk_lt (g := gb210) (o := .cells #[.int .i64 t208, .int .i64 t209] 46 (0, 0)) (kk_ BK210)) : gb212 ≠ gb210)); clear HO_13; clear BK210; clear HB; have HO_13 := n0_; have BK210 := n1_; have HB := n2_; have BK212 := n3_; have GW212 := n4_; have GE212 := n5_; have NB210_212 := n6_; have NB212_210 := n7_; clear n0_ n1_ n2_ n3_ n4_ n5_ n6_ n7_; clear hb hbox hg; have hnb43 := NB212_210.out; have hnc43 := NB210_212.out; have hcz44_0 : w42.cell? ⟨gb212, 0, none⟩ = some (.int .i64 0) := (blk_cell BK212.out 0).trans rfl; have hcz44_1 : w42.cell? ⟨gb212, 1, none⟩ = some (.int .i64 0) := (blk_cell BK212.out 1).trans rfl; have hfz44_0 := blk_frozen BK212.out 0; have hfz44_1 := blk_frozen BK212.out 1; have hcz45_0 : w42.cell? ⟨gb210, 0, none⟩ = some (.int .i64 t208) := (blk_cell BK210.out 0).trans rfl; have hcz45_1 : w42.cell? ⟨gb210, 1, none⟩ = some (.int .i64 t209) := (blk_cell BK210.out 1).trans rfl; have hfz45_0 := blk_frozen BK210.out 0; have hfz45_1 := blk_frozen BK210.out 1))
                  have n0_ : Aside0 (Kd.R k46 46 ((((w42.setCell ⟨gb212, 0, none⟩ (.int .i64 ((rd_T46 l1 x14_2).f0))).setCell ⟨gb212, 1, none⟩ (.int .i64 ((rd_T46 l1 x14_2).f1))).setCell ⟨gb212, 0, none⟩ (.int .i64 t208)).setCell ⟨gb212, 1, none⟩ (.int .i64 t209)) w.heap.size (fun k_ => k_ ≠ gb210 ∧ k_ ≠ gb212) u13 x13_2) := ⟨by (with_reducible repeat (first | apply Kd.R_alloc | apply Kd.R_drewN | apply Kd.R_drew)); exact Kd.R_mono (Kd.R_far (p := ⟨gb212, 1, none⟩) (Kd.R_far (p := ⟨gb212, 0, none⟩) (Kd.R_far (p := ⟨gb212, 1, none⟩) (Kd.R_far (p := ⟨gb212, 0, none⟩) (Kd.R_mono HO_13.out (fun k_ hk => (⟨hk, hk.2⟩ : _ ∧ k_ ≠ gb212))) (fun _ hk => hk.2) (.int .i64 ((rd_T46 l1 x14_2).f0))) (fun _ hk => hk.2) (.int .i64 ((rd_T46 l1 x14_2).f1))) (fun _ hk => hk.2) (.int .i64 t208)) (fun _ hk => hk.2) (.int .i64 t209)) (fun _ hk => ⟨hk.1.1, hk.1.2⟩)⟩
                  have n1_ : Aside0 (((((w42.setCell ⟨gb212, 0, none⟩ (.int .i64 ((rd_T46 l1 x14_2).f0))).setCell ⟨gb212, 1, none⟩ (.int .i64 ((rd_T46 l1 x14_2).f1))).setCell ⟨gb212, 0, none⟩ (.int .i64 t208)).setCell ⟨gb212, 1, none⟩ (.int .i64 t209)).heap[gb210]? = some (.cells #[.int .i64 t208, .int .i64 t209] 46 (0, 0))) := ⟨by (with_reducible repeat (first | refine blk_drewN ?_ _ | refine blk_drew ?_ | refine blk_alloc ?_ _)); refine blk_far ?_ NB210_212.out _; (with_reducible repeat (first | refine blk_drewN ?_ _ | refine blk_drew ?_ | refine blk_alloc ?_ _)); refine blk_far ?_ NB210_212.out _; (with_reducible repeat (first | refine blk_drewN ?_ _ | refine blk_drew ?_ | refine blk_alloc ?_ _)); refine blk_far ?_ NB210_212.out _; (with_reducible repeat (first | refine blk_drewN ?_ _ | refine blk_drew ?_ | refine blk_alloc ?_ _)); refine blk_far ?_ NB210_212.out _; (with_reducible repeat (first | refine blk_drewN ?_ _ | refine blk_drew ?_ | refine blk_alloc ?_ _)); exact BK210.out⟩
                  have n2_ : Aside0 (((((w42.setCell ⟨gb212, 0, none⟩ (.int .i64 ((rd_T46 l1 x14_2).f0))).setCell ⟨gb212, 1, none⟩ (.int .i64 ((rd_T46 l1 x14_2).f1))).setCell ⟨gb212, 0, none⟩ (.int .i64 t208)).setCell ⟨gb212, 1, none⟩ (.int .i64 t209)).heap[gb212]? = some (.cells #[.int .i64 t208, .int .i64 t209] 46 (0, 0))) := ⟨by (with_reducible repeat (first | refine blk_drewN ?_ _ | refine blk_drew ?_ | refine blk_alloc ?_ _)); refine blk_put (cs := #[.int .i64 t208, .int .i64 ((rd_T46 l1 x14_2).f1)]) ?_ 1 _ rfl; (with_reducible repeat (first | refine blk_drewN ?_ _ | refine blk_drew ?_ | refine blk_alloc ?_ _)); refine blk_put (cs := #[.int .i64 ((rd_T46 l1 x14_2).f0), .int .i64 ((rd_T46 l1 x14_2).f1)]) ?_ 0 _ rfl; (with_reducible repeat (first | refine blk_drewN ?_ _ | refine blk_drew ?_ | refine blk_alloc ?_ _)); refine blk_put (cs := #[.int .i64 ((rd_T46 l1 x14_2).f0), .int .i64 0]) ?_ 1 _ rfl; (with_reducible repeat (first | refine blk_drewN ?_ _ | refine blk_drew ?_ | refine blk_alloc ?_ _)); refine blk_put (cs := #[.int .i64 0, .int .i64 0]) ?_ 0 _ rfl; (with_reducible repeat (first | refine blk_drewN ?_ _ | refine blk_drew ?_ | refine blk_alloc ?_ _)); exact BK212.out⟩
                  have n3_ : Aside0 (Below w.heap.size w ((((w42.setCell ⟨gb212, 0, none⟩ (.int .i64 ((rd_T46 l1 x14_2).f0))).setCell ⟨gb212, 1, none⟩ (.int .i64 ((rd_T46 l1 x14_2).f1))).setCell ⟨gb212, 0, none⟩ (.int .i64 t208)).setCell ⟨gb212, 1, none⟩ (.int .i64 t209))) := ⟨by repeat (first | (with_reducible first | exact HB.out | apply below_alloc | apply pw_below_drewN | apply below_drew1 | refine below_set ?_ GE210.out | refine below_set ?_ GE212.out) | exact HB.out)⟩
                  (try clear HO_13)
                  (try clear BK210)
                  (try clear BK212)
                  (try clear HB)
                  generalize ((((w42.setCell ⟨gb212, 0, none⟩ (.int .i64 ((rd_T46 l1 x14_2).f0))).setCell ⟨gb212, 1, none⟩ (.int .i64 ((rd_T46 l1 x14_2).f1))).setCell ⟨gb212, 0, none⟩ (.int .i64 t208)).setCell ⟨gb212, 1, none⟩ (.int .i64 t209)) = w46 at n0_ n1_ n2_ n3_ ⊢
                  have HO_13 := n0_
                  have BK210 := n1_
                  have BK212 := n2_
                  have HB := n3_
                  clear n0_ n1_ n2_ n3_
                  have n0_ := Aside0.mk (Kd.R_drew HO_13.out)
                  have n1_ := Aside0.mk (blk_drew BK210.out)
                  have n2_ := Aside0.mk (blk_drew BK212.out)
                  have n3_ := Aside0.mk (below_drew1 HB.out)
                  clear HO_13
                  clear BK210
                  clear BK212
                  clear HB
                  have HO_13 := n0_
                  have BK210 := n1_
                  have BK212 := n2_
                  have HB := n3_
                  clear n0_ n1_ n2_ n3_
                  have p213 : 0 ≤ (x14_2 : Int) := od_
                  have q213 : x14_2 < (l0.length : Int) := od_
                  obtain ⟨ad213, e213, hx213_0, hx213_1, hx213_2⟩ := at_T44 HR0.out x14_2 p213 q213
                  have hw213_2 := hx213_2
                  have hw213_1 := hx213_1
                  have hw213_0 := hx213_0
                  obtain rfl : ad207 = ad213 := (by injection e213)
                  replace hx213_0 := (HB.out.cell (World.block_lt_of_cell? w _ hx213_0)).trans hx213_0
                  replace hx213_1 := (HB.out.cell (World.block_lt_of_cell? w _ hx213_1)).trans hx213_1
                  replace hx213_2 := (HB.out.cell (World.block_lt_of_cell? w _ hx213_2)).trans hx213_2
                  replace p213 := eq_true p213
                  replace q213 := eq_true q213
                  have p214 : 0 ≤ (a2 : Int) := od_
                  have q214 : a2 < (l0.length : Int) := od_
                  obtain ⟨ad214, e214, hx214_0, hx214_1, hx214_2⟩ := at_T44 HR0.out a2 p214 q214
                  have hw214_2 := hx214_2
                  have hw214_1 := hx214_1
                  have hw214_0 := hx214_0
                  obtain rfl : ad207 = ad214 := (by injection e214)
                  replace hx214_0 := (HB.out.cell (World.block_lt_of_cell? w _ hx214_0)).trans hx214_0
                  replace hx214_1 := (HB.out.cell (World.block_lt_of_cell? w _ hx214_1)).trans hx214_1
                  replace hx214_2 := (HB.out.cell (World.block_lt_of_cell? w _ hx214_2)).trans hx214_2
                  replace p214 := eq_true p214
                  replace q214 := eq_true q214
                  refine start_ (n := 16) (S := fun w' => w'.cell? (ad207.add ((x14_2).toNat * 3)) = some (.int .i64 ((rd_T44 l0 x14_2).f0)) ∧ w'.cell? ⟨(ad207.add ((x14_2).toNat * 3)).block, (ad207.add ((x14_2).toNat * 3)).off + 1, none⟩ = some (.int .i64 ((rd_T44 l0 x14_2).f1)) ∧ w'.cell? ⟨(ad207.add ((x14_2).toNat * 3)).block, (ad207.add ((x14_2).toNat * 3)).off + 2, none⟩ = some (.int .i64 ((rd_T44 l0 x14_2).f2)) ∧ w'.cell? (ad207.add ((a2).toNat * 3)) = some (.int .i64 ((rd_T44 l0 a2).f0)) ∧ w'.cell? ⟨(ad207.add ((a2).toNat * 3)).block, (ad207.add ((a2).toNat * 3)).off + 1, none⟩ = some (.int .i64 ((rd_T44 l0 a2).f1)) ∧ w'.cell? ⟨(ad207.add ((a2).toNat * 3)).block, (ad207.add ((a2).toNat * 3)).off + 2, none⟩ = some (.int .i64 ((rd_T44 l0 a2).f2))) (ds := []) #[n_, n_, n_, n_, n_, n_, n_, n_, n_, n_, n_, n_, n_, n_, n_, n_] (by kernel_rfl) rfl rfl ⟨((HB.out.cell (World.block_lt_of_cell? w _ hw213_0)).trans hw213_0), ((HB.out.cell (World.block_lt_of_cell? w _ hw213_1)).trans hw213_1), ((HB.out.cell (World.block_lt_of_cell? w _ hw213_2)).trans hw213_2), ((HB.out.cell (World.block_lt_of_cell? w _ hw214_0)).trans hw214_0), ((HB.out.cell (World.block_lt_of_cell? w _ hw214_1)).trans hw214_1), ((HB.out.cell (World.block_lt_of_cell? w _ hw214_2)).trans hw214_2)⟩ (fun hHeld => ?_); refine with_tabW cohousingref28_equation.tab16 cohousingref28_equation.bits16 (fun HT_ HW_ => ?_)
                  generalize w46.drew = w47 at HO_13 BK210 BK212 HB hx213_0 hx213_1 hx213_2 hx214_0 hx214_1 hx214_2 hHeld ⊢
                  refine pu_ 0 69 (w_ 16 1) rfl HT_ ?_
                  refine pu_ 1 70 (w_ 16 3) rfl HT_ ?_
                  refine pu_ 2 71 (w_ 16 7) rfl HT_ ?_
                  refine pu_ 3 72 (w_ 16 15) rfl HT_ ?_
                  refine pu_ 4 73 (w_ 16 31) rfl HT_ ?_
                  refine pu_ 5 74 (w_ 16 63) rfl HT_ ?_
                  refine pu_ 6 75 (w_ 16 127) rfl HT_ ?_
                  refine pu_ 7 76 (w_ 16 255) rfl HT_ ?_
                  refine pu_ 9 78 (w_ 16 767) rfl HT_ ?_
                  refine pu_ 10 79 (w_ 16 1791) rfl HT_ ?_
                  refine pu_ 11 80 (w_ 16 3839) rfl HT_ ?_
                  refine pu_ 12 81 (w_ 16 7935) rfl HT_ ?_
                  refine ta_ 8 77 (w_ 16 8191) rfl HT_ HW_ hHeld (by rintro w' ⟨s0, s1, s2, s3, s4, s5⟩; go_simp; with_reducible rfl) ?_
                  refine ta_ 13 82 (w_ 16 16383) rfl HT_ HW_ hHeld (by rintro w' ⟨s0, s1, s2, s3, s4, s5⟩; go_simp; with_reducible rfl) ?_
                  refine pu_ 14 83 (w_ 16 32767) rfl HT_ ?_
                  refine pu_ 15 84 (w_ 16 65535) rfl HT_ ?_
                  refine done_ (done_of HT_.out (by kernel_rfl)) ?_
                  have hcz48_0 : w47.cell? ⟨gb212, 0, none⟩ = some (.int .i64 t208) := (blk_cell BK212.out 0).trans rfl
                  have hcz48_1 : w47.cell? ⟨gb212, 1, none⟩ = some (.int .i64 t209) := (blk_cell BK212.out 1).trans rfl
                  have hfz48_0 := blk_frozen BK212.out 0
                  have hfz48_1 := blk_frozen BK212.out 1
                  try go_wp2_with (first | ((with_reducible refine gate_builtin (b := .append) (xs := #[.tmp 107, .tmp 109]) rfl ?_); at_builtin; refine Kd.R_append k46 (w0 := w) w.heap.size rfl (.tmp 107) (.tmp 109) 23 46 (.agg #[(.int .i64 0), (.int .i64 0)]) 16 rfl Try.underlying23 info46 rfl (by decide) (by omega) u13 x13_2 (⟨t208, t209⟩ : S46) [.int .i64 t208, .int .i64 t209] (fun k_ => k_ ≠ gb210 ∧ k_ ≠ gb212) (fun _ => False) rfl rfl ?aP (fun _ hk => hk.elim) ?aF ?aO ?aB ?aS ?aL ?_; (case aP => exact k46_mkM _ _ _ (⟨t208, t209⟩ : S46)); (case aB => exact (by repeat (first | (with_reducible first | exact HB.out | apply below_alloc | apply pw_below_drewN | apply below_drew1 | refine below_set ?_ GE210.out | refine below_set ?_ GE212.out) | exact HB.out))); (case aF => exact (fun k_ hk => ⟨Kd.freshB (g := gb210) (o := .cells #[.int .i64 t208, .int .i64 t209] 46 (0, 0)) (kk_ BK210) k_ hk, Kd.freshB (g := gb212) (o := .cells #[.int .i64 t208, .int .i64 t209] 46 (0, 0)) (kk_ BK212) k_ hk⟩)); (case aO => exact (rr_ HO_13)); (case aS => exact (below_size (by repeat (first | (with_reducible first | exact HB.out | apply below_alloc | apply pw_below_drewN | apply below_drew1 | refine below_set ?_ GE210.out | refine below_set ?_ GE212.out) | exact HB.out)))); (case aL => have := LMc41.out; omega); intro v222 w49 ho hb hg hat; rw [← Ny221.out] at ho; have n0_ := Aside0.mk (blk_grown (g := gb210) (o := .cells #[.int .i64 t208, .int .i64 t209] 46 (0, 0)) (kk_ BK210) hg (Kd.R_away HO_13.out (fun _ hk => hk.1))); have n1_ := Aside0.mk (blk_grown (g := gb212) (o := .cells #[.int .i64 t208, .int .i64 t209] 46 (0, 0)) (kk_ BK212) hg (Kd.R_away HO_13.out (fun _ hk => hk.2))); have n2_ := Aside0.mk (hb); have n3_ := Aside0.mk (ho); clear BK210; clear BK212; clear HB; clear HO_13; have BK210 := n0_; have BK212 := n1_; have HB := n2_; have HO223 := n3_; clear n0_ n1_ n2_ n3_; clear ho hb hg hat))
                  go_roundg k2
                  case measure => have := HK1.out; have := HK2.out; omega
                  case rel => exact ⟨(y221), (wrap64 (x14_2 + 1)), sd_, H', ⟨by have := HK1.out; have := HK2.out; omega⟩, ⟨by (with_reducible repeat (first | apply Kd.R_alloc | apply Kd.R_drewN | apply Kd.R_drew)); exact Kd.R_mono HO223.out (fun _ hk => hk.1)⟩, ⟨by (with_reducible repeat (first | refine blk_drewN ?_ _ | refine blk_drew ?_ | refine blk_alloc ?_ _)); exact BK210.out⟩, ⟨by repeat (first | (with_reducible first | exact HB.out | apply below_alloc | apply pw_below_drewN | apply below_drew1 | refine below_set ?_ GE210.out | refine below_set ?_ GE212.out) | exact HB.out)⟩⟩
                 ·rw [if_neg c41] at H
                  exact absurd H (by simp)
               ·rw [if_neg c25] at H
                exact absurd H (by simp)
              ·rw [if_neg c24] at H
               exact absurd H (by simp)
             ·rw [if_neg c23] at H
              exact absurd H (by simp)
            ·rw [if_neg c22] at H
             have c22b0 : decide (a2 < x14_2) = false := decide_eq_false c22
             clear c22
             by_cases c50 : x13_2.length < 8796093022208
             ·rw [if_pos c50] at H
              have LMc50 := Aside0.mk c50
              clear c50
              obtain ⟨y224, hy224⟩ : ∃ y_ : List (S46), y_ = (x13_2 ++ [(⟨t208, t209⟩ : S46)]) := ⟨_, rfl⟩
              replace H : (cohousingref28_equation.l1 k2 l0 l1 a2 x9_1 x10_1 y224 (wrap64 (x14_2 + 1)) t208 t209) = some r := by first | (rw [hy224]; with_reducible exact H) | (have H2_ := (Option.bind_some _ _).symm.trans H; rw [hy224]; with_reducible exact H2_) | (have H2_ := (Option.bind_some _ _).symm.trans H; with_reducible exact H2_) | with_reducible exact H | (rw [hy224]; exact H) | exact H
              have Ny224 := Aside0.mk hy224
              clear hy224
              have H' := Aside0.mk H
              clear H
              have p211 : 0 ≤ (x14_2 : Int) := od_
              have q211 : x14_2 < (l1.length : Int) := od_
              obtain ⟨ad211, e211, hx211_0, hx211_1⟩ := at_T46 HR1.out x14_2 p211 q211
              obtain rfl : ad206 = ad211 := (by injection e211)
              replace hx211_0 := (HB.out.cell (World.block_lt_of_cell? w _ hx211_0)).trans hx211_0
              replace hx211_1 := (HB.out.cell (World.block_lt_of_cell? w _ hx211_1)).trans hx211_1
              replace p211 := eq_true p211
              replace q211 := eq_true q211
              try go_wp2_with (first | ((with_reducible refine gate_dst (N := 15) rfl ?_); refine box_event ?hg (N := 15) ?hd (cs := #[.int .i64 0, .int .i64 0]) (t := 46) ?hr ?_; (case hd => rfl); (case hg => rfl); (case hr => first | (go_simp; done) | (go_simp; rfl)); intro gb212 hg w51 hbox hb; have n0_ := Aside0.mk (Kd.R_below (Kd.R_elderB (rr_ HO_13) gb212 (Nat.le_of_eq hg.symm)) hb); have n1_ := Aside0.mk (blk_below (g := gb210) (o := .cells #[.int .i64 t208, .int .i64 t209] 46 (0, 0)) (kk_ BK210) hb); have n2_ := Aside0.mk (below_step (bs_ HB GE210.out) hb); have n3_ := Aside0.mk (hbox); have n4_ := Aside0.mk ((by rw [hg]; exact (below_size (bs_ HB GE210.out)) : w.heap.size ≤ gb212)); have n5_ := Aside0.mk ((by rw [hg]; exact (below_size (bs_ HB GE210.out)) : w.heap.size ≤ gb212)); have n6_ := Aside0.mk ((by rw [hg]; exact Nat.ne_of_lt (blk_lt (g := gb210) (o := .cells #[.int .i64 t208, .int .i64 t209] 46 (0, 0)) (kk_ BK210)) : gb210 ≠ gb212)); have n7_ := Aside0.mk ((by rw [hg]; exact Nat.ne_of_gt (blk_lt (g := gb210) (o := .cells #[.int .i64 t208, .int .i64 t209] 46 (0, 0)) (kk_ BK210)) : gb212 ≠ gb210)); clear HO_13; clear BK210; clear HB; have HO_13 := n0_; have BK210 := n1_; have HB := n2_; have BK212 := n3_; have GW212 := n4_; have GE212 := n5_; have NB210_212 := n6_; have NB212_210 := n7_; clear n0_ n1_ n2_ n3_ n4_ n5_ n6_ n7_; clear hb hbox hg; have hnb52 := NB212_210.out; have hnc52 := NB210_212.out; have hcz53_0 : w51.cell? ⟨gb212, 0, none⟩ = some (.int .i64 0) := (blk_cell BK212.out 0).trans rfl; have hcz53_1 : w51.cell? ⟨gb212, 1, none⟩ = some (.int .i64 0) := (blk_cell BK212.out 1).trans rfl; have hfz53_0 := blk_frozen BK212.out 0; have hfz53_1 := blk_frozen BK212.out 1; have hcz54_0 : w51.cell? ⟨gb210, 0, none⟩ = some (.int .i64 t208) := (blk_cell BK210.out 0).trans rfl; have hcz54_1 : w51.cell? ⟨gb210, 1, none⟩ = some (.int .i64 t209) := (blk_cell BK210.out 1).trans rfl; have hfz54_0 := blk_frozen BK210.out 0; have hfz54_1 := blk_frozen BK210.out 1))
              have n0_ : Aside0 (Kd.R k46 46 ((((w51.setCell ⟨gb212, 0, none⟩ (.int .i64 ((rd_T46 l1 x14_2).f0))).setCell ⟨gb212, 1, none⟩ (.int .i64 ((rd_T46 l1 x14_2).f1))).setCell ⟨gb212, 0, none⟩ (.int .i64 t208)).setCell ⟨gb212, 1, none⟩ (.int .i64 t209)) w.heap.size (fun k_ => k_ ≠ gb210 ∧ k_ ≠ gb212) u13 x13_2) := ⟨by (with_reducible repeat (first | apply Kd.R_alloc | apply Kd.R_drewN | apply Kd.R_drew)); exact Kd.R_mono (Kd.R_far (p := ⟨gb212, 1, none⟩) (Kd.R_far (p := ⟨gb212, 0, none⟩) (Kd.R_far (p := ⟨gb212, 1, none⟩) (Kd.R_far (p := ⟨gb212, 0, none⟩) (Kd.R_mono HO_13.out (fun k_ hk => (⟨hk, hk.2⟩ : _ ∧ k_ ≠ gb212))) (fun _ hk => hk.2) (.int .i64 ((rd_T46 l1 x14_2).f0))) (fun _ hk => hk.2) (.int .i64 ((rd_T46 l1 x14_2).f1))) (fun _ hk => hk.2) (.int .i64 t208)) (fun _ hk => hk.2) (.int .i64 t209)) (fun _ hk => ⟨hk.1.1, hk.1.2⟩)⟩
              have n1_ : Aside0 (((((w51.setCell ⟨gb212, 0, none⟩ (.int .i64 ((rd_T46 l1 x14_2).f0))).setCell ⟨gb212, 1, none⟩ (.int .i64 ((rd_T46 l1 x14_2).f1))).setCell ⟨gb212, 0, none⟩ (.int .i64 t208)).setCell ⟨gb212, 1, none⟩ (.int .i64 t209)).heap[gb210]? = some (.cells #[.int .i64 t208, .int .i64 t209] 46 (0, 0))) := ⟨by (with_reducible repeat (first | refine blk_drewN ?_ _ | refine blk_drew ?_ | refine blk_alloc ?_ _)); refine blk_far ?_ NB210_212.out _; (with_reducible repeat (first | refine blk_drewN ?_ _ | refine blk_drew ?_ | refine blk_alloc ?_ _)); refine blk_far ?_ NB210_212.out _; (with_reducible repeat (first | refine blk_drewN ?_ _ | refine blk_drew ?_ | refine blk_alloc ?_ _)); refine blk_far ?_ NB210_212.out _; (with_reducible repeat (first | refine blk_drewN ?_ _ | refine blk_drew ?_ | refine blk_alloc ?_ _)); refine blk_far ?_ NB210_212.out _; (with_reducible repeat (first | refine blk_drewN ?_ _ | refine blk_drew ?_ | refine blk_alloc ?_ _)); exact BK210.out⟩
              have n2_ : Aside0 (((((w51.setCell ⟨gb212, 0, none⟩ (.int .i64 ((rd_T46 l1 x14_2).f0))).setCell ⟨gb212, 1, none⟩ (.int .i64 ((rd_T46 l1 x14_2).f1))).setCell ⟨gb212, 0, none⟩ (.int .i64 t208)).setCell ⟨gb212, 1, none⟩ (.int .i64 t209)).heap[gb212]? = some (.cells #[.int .i64 t208, .int .i64 t209] 46 (0, 0))) := ⟨by (with_reducible repeat (first | refine blk_drewN ?_ _ | refine blk_drew ?_ | refine blk_alloc ?_ _)); refine blk_put (cs := #[.int .i64 t208, .int .i64 ((rd_T46 l1 x14_2).f1)]) ?_ 1 _ rfl; (with_reducible repeat (first | refine blk_drewN ?_ _ | refine blk_drew ?_ | refine blk_alloc ?_ _)); refine blk_put (cs := #[.int .i64 ((rd_T46 l1 x14_2).f0), .int .i64 ((rd_T46 l1 x14_2).f1)]) ?_ 0 _ rfl; (with_reducible repeat (first | refine blk_drewN ?_ _ | refine blk_drew ?_ | refine blk_alloc ?_ _)); refine blk_put (cs := #[.int .i64 ((rd_T46 l1 x14_2).f0), .int .i64 0]) ?_ 1 _ rfl; (with_reducible repeat (first | refine blk_drewN ?_ _ | refine blk_drew ?_ | refine blk_alloc ?_ _)); refine blk_put (cs := #[.int .i64 0, .int .i64 0]) ?_ 0 _ rfl; (with_reducible repeat (first | refine blk_drewN ?_ _ | refine blk_drew ?_ | refine blk_alloc ?_ _)); exact BK212.out⟩
              have n3_ : Aside0 (Below w.heap.size w ((((w51.setCell ⟨gb212, 0, none⟩ (.int .i64 ((rd_T46 l1 x14_2).f0))).setCell ⟨gb212, 1, none⟩ (.int .i64 ((rd_T46 l1 x14_2).f1))).setCell ⟨gb212, 0, none⟩ (.int .i64 t208)).setCell ⟨gb212, 1, none⟩ (.int .i64 t209))) := ⟨by repeat (first | (with_reducible first | exact HB.out | apply below_alloc | apply pw_below_drewN | apply below_drew1 | refine below_set ?_ GE210.out | refine below_set ?_ GE212.out) | exact HB.out)⟩
              (try clear HO_13)
              (try clear BK210)
              (try clear BK212)
              (try clear HB)
              generalize ((((w51.setCell ⟨gb212, 0, none⟩ (.int .i64 ((rd_T46 l1 x14_2).f0))).setCell ⟨gb212, 1, none⟩ (.int .i64 ((rd_T46 l1 x14_2).f1))).setCell ⟨gb212, 0, none⟩ (.int .i64 t208)).setCell ⟨gb212, 1, none⟩ (.int .i64 t209)) = w55 at n0_ n1_ n2_ n3_ ⊢
              have HO_13 := n0_
              have BK210 := n1_
              have BK212 := n2_
              have HB := n3_
              clear n0_ n1_ n2_ n3_
              have n0_ := Aside0.mk (Kd.R_drew HO_13.out)
              have n1_ := Aside0.mk (blk_drew BK210.out)
              have n2_ := Aside0.mk (blk_drew BK212.out)
              have n3_ := Aside0.mk (below_drew1 HB.out)
              clear HO_13
              clear BK210
              clear BK212
              clear HB
              have HO_13 := n0_
              have BK210 := n1_
              have BK212 := n2_
              have HB := n3_
              clear n0_ n1_ n2_ n3_
              refine start_ (n := 16) (S := fun w' => True) (ds := []) #[n_, n_, n_, n_, n_, n_, n_, n_, n_, n_, n_, n_, n_, n_, n_, n_] (by kernel_rfl) rfl rfl trivial (fun hHeld => ?_); refine with_tabW cohousingref28_equation.tab16 cohousingref28_equation.bits16 (fun HT_ HW_ => ?_)
              generalize w55.drew = w56 at HO_13 BK210 BK212 HB hHeld ⊢
              refine pu_ 0 69 (w_ 16 1) rfl HT_ ?_
              refine pu_ 1 70 (w_ 16 3) rfl HT_ ?_
              refine pu_ 2 71 (w_ 16 7) rfl HT_ ?_
              refine pu_ 3 72 (w_ 16 15) rfl HT_ ?_
              refine pn_ 4 73 (w_ 16 31) rfl HT_ ?_
              refine pn_ 5 74 (w_ 16 63) rfl HT_ ?_
              refine pn_ 6 75 (w_ 16 127) rfl HT_ ?_
              refine pn_ 7 76 (w_ 16 255) rfl HT_ ?_
              refine pn_ 8 77 (w_ 16 511) rfl HT_ ?_
              refine pn_ 9 78 (w_ 16 1023) rfl HT_ ?_
              refine pn_ 10 79 (w_ 16 2047) rfl HT_ ?_
              refine pn_ 11 80 (w_ 16 4095) rfl HT_ ?_
              refine pn_ 12 81 (w_ 16 8191) rfl HT_ ?_
              refine pn_ 13 82 (w_ 16 16383) rfl HT_ ?_
              refine pn_ 14 83 (w_ 16 32767) rfl HT_ ?_
              refine pu_ 15 84 (w_ 16 65535) rfl HT_ ?_
              refine done_ (done_of HT_.out (by kernel_rfl)) ?_
              have hcz57_0 : w56.cell? ⟨gb212, 0, none⟩ = some (.int .i64 t208) := (blk_cell BK212.out 0).trans rfl
              have hcz57_1 : w56.cell? ⟨gb212, 1, none⟩ = some (.int .i64 t209) := (blk_cell BK212.out 1).trans rfl
              have hfz57_0 := blk_frozen BK212.out 0
              have hfz57_1 := blk_frozen BK212.out 1
              try go_wp2_with (first | ((with_reducible refine gate_builtin (b := .append) (xs := #[.tmp 107, .tmp 109]) rfl ?_); at_builtin; refine Kd.R_append k46 (w0 := w) w.heap.size rfl (.tmp 107) (.tmp 109) 23 46 (.agg #[(.int .i64 0), (.int .i64 0)]) 16 rfl Try.underlying23 info46 rfl (by decide) (by omega) u13 x13_2 (⟨t208, t209⟩ : S46) [.int .i64 t208, .int .i64 t209] (fun k_ => k_ ≠ gb210 ∧ k_ ≠ gb212) (fun _ => False) rfl rfl ?aP (fun _ hk => hk.elim) ?aF ?aO ?aB ?aS ?aL ?_; (case aP => exact k46_mkM _ _ _ (⟨t208, t209⟩ : S46)); (case aB => exact (by repeat (first | (with_reducible first | exact HB.out | apply below_alloc | apply pw_below_drewN | apply below_drew1 | refine below_set ?_ GE210.out | refine below_set ?_ GE212.out) | exact HB.out))); (case aF => exact (fun k_ hk => ⟨Kd.freshB (g := gb210) (o := .cells #[.int .i64 t208, .int .i64 t209] 46 (0, 0)) (kk_ BK210) k_ hk, Kd.freshB (g := gb212) (o := .cells #[.int .i64 t208, .int .i64 t209] 46 (0, 0)) (kk_ BK212) k_ hk⟩)); (case aO => exact (rr_ HO_13)); (case aS => exact (below_size (by repeat (first | (with_reducible first | exact HB.out | apply below_alloc | apply pw_below_drewN | apply below_drew1 | refine below_set ?_ GE210.out | refine below_set ?_ GE212.out) | exact HB.out)))); (case aL => have := LMc50.out; omega); intro v225 w58 ho hb hg hat; rw [← Ny224.out] at ho; have n0_ := Aside0.mk (blk_grown (g := gb210) (o := .cells #[.int .i64 t208, .int .i64 t209] 46 (0, 0)) (kk_ BK210) hg (Kd.R_away HO_13.out (fun _ hk => hk.1))); have n1_ := Aside0.mk (blk_grown (g := gb212) (o := .cells #[.int .i64 t208, .int .i64 t209] 46 (0, 0)) (kk_ BK212) hg (Kd.R_away HO_13.out (fun _ hk => hk.2))); have n2_ := Aside0.mk (hb); have n3_ := Aside0.mk (ho); clear BK210; clear BK212; clear HB; clear HO_13; have BK210 := n0_; have BK212 := n1_; have HB := n2_; have HO226 := n3_; clear n0_ n1_ n2_ n3_; clear ho hb hg hat))
              go_roundg k2
              case measure => have := HK1.out; have := HK2.out; omega
              case rel => exact ⟨(y224), (wrap64 (x14_2 + 1)), sd_, H', ⟨by have := HK1.out; have := HK2.out; omega⟩, ⟨by (with_reducible repeat (first | apply Kd.R_alloc | apply Kd.R_drewN | apply Kd.R_drew)); exact Kd.R_mono HO226.out (fun _ hk => hk.1)⟩, ⟨by (with_reducible repeat (first | refine blk_drewN ?_ _ | refine blk_drew ?_ | refine blk_alloc ?_ _)); exact BK210.out⟩, ⟨by repeat (first | (with_reducible first | exact HB.out | apply below_alloc | apply pw_below_drewN | apply below_drew1 | refine below_set ?_ GE210.out | refine below_set ?_ GE212.out) | exact HB.out)⟩⟩
             ·rw [if_neg c50] at H
              exact absurd H (by simp)
           ·rw [if_neg c21] at H
            have c21b0 : (x14_2 == a2) = false := beq_eq_false_iff_ne.mpr c21
            have c21b1 : (x14_2 != a2) = true := bne_iff_ne.mpr c21
            by_cases c59 : x14_2 > a2
            ·rw [if_pos c59] at H
             have c59b0 : decide (a2 < x14_2) = true := decide_eq_true c59
             clear c59
             by_cases c60 : x14_2 < (l0.length : Int)
             ·rw [if_pos c60] at H
              have c60b0 : decide (x14_2 < (l0.length : Int)) = true := decide_eq_true c60
              clear c60
              by_cases c61 : 0 ≤ a2
              ·rw [if_pos c61] at H
               have c61b0 : decide (0 ≤ a2) = true := decide_eq_true c61
               clear c61
               by_cases c62 : a2 < (l0.length : Int)
               ·rw [if_pos c62] at H
                have c62b0 : decide (a2 < (l0.length : Int)) = true := decide_eq_true c62
                clear c62
                by_cases c63 : ((rd_T44 l0 x14_2).f1) = ((rd_T44 l0 a2).f0)
                ·rw [if_pos c63] at H
                 have c63b0 : (((rd_T44 l0 x14_2).f1) == ((rd_T44 l0 a2).f0)) = true := beq_iff_eq.mpr c63
                 have c63b1 : (((rd_T44 l0 x14_2).f1) != ((rd_T44 l0 a2).f0)) = false := bne_eq_false_iff_eq.mpr c63
                 clear c63
                 replace H := Option.bind_eq_some_iff.mp H
                 obtain ⟨⟨t230, t231⟩, A640, H⟩ := H
                 replace H : (if x13_2.length < 8796093022208 then (cohousingref28_equation.l1 k2 l0 l1 a2 x9_1 x10_1 (x13_2 ++ [(⟨t230, t231⟩ : S46)]) (wrap64 (x14_2 + 1)) t208 t209) else (none)) = some r := H
                 have A64 := Aside0.mk A640
                 clear A640
                 by_cases c65 : x13_2.length < 8796093022208
                 ·rw [if_pos c65] at H
                  have LMc65 := Aside0.mk c65
                  clear c65
                  obtain ⟨y232, hy232⟩ : ∃ y_ : List (S46), y_ = (x13_2 ++ [(⟨t230, t231⟩ : S46)]) := ⟨_, rfl⟩
                  replace H : (cohousingref28_equation.l1 k2 l0 l1 a2 x9_1 x10_1 y232 (wrap64 (x14_2 + 1)) t208 t209) = some r := by first | (rw [hy232]; with_reducible exact H) | (have H2_ := (Option.bind_some _ _).symm.trans H; rw [hy232]; with_reducible exact H2_) | (have H2_ := (Option.bind_some _ _).symm.trans H; with_reducible exact H2_) | with_reducible exact H | (rw [hy232]; exact H) | exact H
                  have Ny232 := Aside0.mk hy232
                  clear hy232
                  have H' := Aside0.mk H
                  clear H
                  have p211 : 0 ≤ (x14_2 : Int) := od_
                  have q211 : x14_2 < (l1.length : Int) := od_
                  obtain ⟨ad211, e211, hx211_0, hx211_1⟩ := at_T46 HR1.out x14_2 p211 q211
                  obtain rfl : ad206 = ad211 := (by injection e211)
                  replace hx211_0 := (HB.out.cell (World.block_lt_of_cell? w _ hx211_0)).trans hx211_0
                  replace hx211_1 := (HB.out.cell (World.block_lt_of_cell? w _ hx211_1)).trans hx211_1
                  replace p211 := eq_true p211
                  replace q211 := eq_true q211
                  try go_wp2_with (first | ((with_reducible refine gate_dst (N := 15) rfl ?_); refine box_event ?hg (N := 15) ?hd (cs := #[.int .i64 0, .int .i64 0]) (t := 46) ?hr ?_; (case hd => rfl); (case hg => rfl); (case hr => first | (go_simp; done) | (go_simp; rfl)); intro gb212 hg w66 hbox hb; have n0_ := Aside0.mk (Kd.R_below (Kd.R_elderB (rr_ HO_13) gb212 (Nat.le_of_eq hg.symm)) hb); have n1_ := Aside0.mk (blk_below (g := gb210) (o := .cells #[.int .i64 t208, .int .i64 t209] 46 (0, 0)) (kk_ BK210) hb); have n2_ := Aside0.mk (below_step (bs_ HB GE210.out) hb); have n3_ := Aside0.mk (hbox); have n4_ := Aside0.mk ((by rw [hg]; exact (below_size (bs_ HB GE210.out)) : w.heap.size ≤ gb212)); have n5_ := Aside0.mk ((by rw [hg]; exact (below_size (bs_ HB GE210.out)) : w.heap.size ≤ gb212)); have n6_ := Aside0.mk ((by rw [hg]; exact Nat.ne_of_lt (blk_lt (g := gb210) (o := .cells #[.int .i64 t208, .int .i64 t209] 46 (0, 0)) (kk_ BK210)) : gb210 ≠ gb212)); have n7_ := Aside0.mk ((by rw [hg]; exact Nat.ne_of_gt (blk_lt (g := gb210) (o := .cells #[.int .i64 t208, .int .i64 t209] 46 (0, 0)) (kk_ BK210)) : gb212 ≠ gb210)); clear HO_13; clear BK210; clear HB; have HO_13 := n0_; have BK210 := n1_; have HB := n2_; have BK212 := n3_; have GW212 := n4_; have GE212 := n5_; have NB210_212 := n6_; have NB212_210 := n7_; clear n0_ n1_ n2_ n3_ n4_ n5_ n6_ n7_; clear hb hbox hg; have hnb67 := NB212_210.out; have hnc67 := NB210_212.out; have hcz68_0 : w66.cell? ⟨gb212, 0, none⟩ = some (.int .i64 0) := (blk_cell BK212.out 0).trans rfl; have hcz68_1 : w66.cell? ⟨gb212, 1, none⟩ = some (.int .i64 0) := (blk_cell BK212.out 1).trans rfl; have hfz68_0 := blk_frozen BK212.out 0; have hfz68_1 := blk_frozen BK212.out 1))
                  have n0_ : Aside0 (Kd.R k46 46 ((w66.setCell ⟨gb212, 0, none⟩ (.int .i64 ((rd_T46 l1 x14_2).f0))).setCell ⟨gb212, 1, none⟩ (.int .i64 ((rd_T46 l1 x14_2).f1))) w.heap.size (fun k_ => k_ ≠ gb210 ∧ k_ ≠ gb212) u13 x13_2) := ⟨by (with_reducible repeat (first | apply Kd.R_alloc | apply Kd.R_drewN | apply Kd.R_drew)); exact Kd.R_mono (Kd.R_far (p := ⟨gb212, 1, none⟩) (Kd.R_far (p := ⟨gb212, 0, none⟩) (Kd.R_mono HO_13.out (fun k_ hk => (⟨hk, hk.2⟩ : _ ∧ k_ ≠ gb212))) (fun _ hk => hk.2) (.int .i64 ((rd_T46 l1 x14_2).f0))) (fun _ hk => hk.2) (.int .i64 ((rd_T46 l1 x14_2).f1))) (fun _ hk => ⟨hk.1.1, hk.1.2⟩)⟩
                  have n1_ : Aside0 (((w66.setCell ⟨gb212, 0, none⟩ (.int .i64 ((rd_T46 l1 x14_2).f0))).setCell ⟨gb212, 1, none⟩ (.int .i64 ((rd_T46 l1 x14_2).f1))).heap[gb210]? = some (.cells #[.int .i64 t208, .int .i64 t209] 46 (0, 0))) := ⟨by (with_reducible repeat (first | refine blk_drewN ?_ _ | refine blk_drew ?_ | refine blk_alloc ?_ _)); refine blk_far ?_ NB210_212.out _; (with_reducible repeat (first | refine blk_drewN ?_ _ | refine blk_drew ?_ | refine blk_alloc ?_ _)); refine blk_far ?_ NB210_212.out _; (with_reducible repeat (first | refine blk_drewN ?_ _ | refine blk_drew ?_ | refine blk_alloc ?_ _)); exact BK210.out⟩
                  have n2_ : Aside0 (((w66.setCell ⟨gb212, 0, none⟩ (.int .i64 ((rd_T46 l1 x14_2).f0))).setCell ⟨gb212, 1, none⟩ (.int .i64 ((rd_T46 l1 x14_2).f1))).heap[gb212]? = some (.cells #[.int .i64 ((rd_T46 l1 x14_2).f0), .int .i64 ((rd_T46 l1 x14_2).f1)] 46 (0, 0))) := ⟨by (with_reducible repeat (first | refine blk_drewN ?_ _ | refine blk_drew ?_ | refine blk_alloc ?_ _)); refine blk_put (cs := #[.int .i64 ((rd_T46 l1 x14_2).f0), .int .i64 0]) ?_ 1 _ rfl; (with_reducible repeat (first | refine blk_drewN ?_ _ | refine blk_drew ?_ | refine blk_alloc ?_ _)); refine blk_put (cs := #[.int .i64 0, .int .i64 0]) ?_ 0 _ rfl; (with_reducible repeat (first | refine blk_drewN ?_ _ | refine blk_drew ?_ | refine blk_alloc ?_ _)); exact BK212.out⟩
                  have n3_ : Aside0 (Below w.heap.size w ((w66.setCell ⟨gb212, 0, none⟩ (.int .i64 ((rd_T46 l1 x14_2).f0))).setCell ⟨gb212, 1, none⟩ (.int .i64 ((rd_T46 l1 x14_2).f1)))) := ⟨by repeat (first | (with_reducible first | exact HB.out | apply below_alloc | apply pw_below_drewN | apply below_drew1 | refine below_set ?_ GE210.out | refine below_set ?_ GE212.out) | exact HB.out)⟩
                  (try clear HO_13)
                  (try clear BK210)
                  (try clear BK212)
                  (try clear HB)
                  generalize ((w66.setCell ⟨gb212, 0, none⟩ (.int .i64 ((rd_T46 l1 x14_2).f0))).setCell ⟨gb212, 1, none⟩ (.int .i64 ((rd_T46 l1 x14_2).f1))) = w69 at n0_ n1_ n2_ n3_ ⊢
                  have HO_13 := n0_
                  have BK210 := n1_
                  have BK212 := n2_
                  have HB := n3_
                  clear n0_ n1_ n2_ n3_
                  have n0_ := Aside0.mk (Kd.R_drew HO_13.out)
                  have n1_ := Aside0.mk (blk_drew BK210.out)
                  have n2_ := Aside0.mk (blk_drew BK212.out)
                  have n3_ := Aside0.mk (below_drew1 HB.out)
                  clear HO_13
                  clear BK210
                  clear BK212
                  clear HB
                  have HO_13 := n0_
                  have BK210 := n1_
                  have BK212 := n2_
                  have HB := n3_
                  clear n0_ n1_ n2_ n3_
                  have p227 : 0 ≤ (x14_2 : Int) := od_
                  have q227 : x14_2 < (l0.length : Int) := od_
                  obtain ⟨ad227, e227, hx227_0, hx227_1, hx227_2⟩ := at_T44 HR0.out x14_2 p227 q227
                  have hw227_2 := hx227_2
                  have hw227_1 := hx227_1
                  have hw227_0 := hx227_0
                  obtain rfl : ad207 = ad227 := (by injection e227)
                  replace hx227_0 := (HB.out.cell (World.block_lt_of_cell? w _ hx227_0)).trans hx227_0
                  replace hx227_1 := (HB.out.cell (World.block_lt_of_cell? w _ hx227_1)).trans hx227_1
                  replace hx227_2 := (HB.out.cell (World.block_lt_of_cell? w _ hx227_2)).trans hx227_2
                  replace p227 := eq_true p227
                  replace q227 := eq_true q227
                  have p228 : 0 ≤ (a2 : Int) := od_
                  have q228 : a2 < (l0.length : Int) := od_
                  obtain ⟨ad228, e228, hx228_0, hx228_1, hx228_2⟩ := at_T44 HR0.out a2 p228 q228
                  have hw228_2 := hx228_2
                  have hw228_1 := hx228_1
                  have hw228_0 := hx228_0
                  obtain rfl : ad207 = ad228 := (by injection e228)
                  replace hx228_0 := (HB.out.cell (World.block_lt_of_cell? w _ hx228_0)).trans hx228_0
                  replace hx228_1 := (HB.out.cell (World.block_lt_of_cell? w _ hx228_1)).trans hx228_1
                  replace hx228_2 := (HB.out.cell (World.block_lt_of_cell? w _ hx228_2)).trans hx228_2
                  replace p228 := eq_true p228
                  replace q228 := eq_true q228
                  refine start_ (n := 16) (S := fun w' => w'.cell? (ad207.add ((x14_2).toNat * 3)) = some (.int .i64 ((rd_T44 l0 x14_2).f0)) ∧ w'.cell? ⟨(ad207.add ((x14_2).toNat * 3)).block, (ad207.add ((x14_2).toNat * 3)).off + 1, none⟩ = some (.int .i64 ((rd_T44 l0 x14_2).f1)) ∧ w'.cell? ⟨(ad207.add ((x14_2).toNat * 3)).block, (ad207.add ((x14_2).toNat * 3)).off + 2, none⟩ = some (.int .i64 ((rd_T44 l0 x14_2).f2)) ∧ w'.cell? (ad207.add ((a2).toNat * 3)) = some (.int .i64 ((rd_T44 l0 a2).f0)) ∧ w'.cell? ⟨(ad207.add ((a2).toNat * 3)).block, (ad207.add ((a2).toNat * 3)).off + 1, none⟩ = some (.int .i64 ((rd_T44 l0 a2).f1)) ∧ w'.cell? ⟨(ad207.add ((a2).toNat * 3)).block, (ad207.add ((a2).toNat * 3)).off + 2, none⟩ = some (.int .i64 ((rd_T44 l0 a2).f2))) (ds := []) #[n_, n_, n_, n_, n_, n_, n_, n_, n_, n_, n_, n_, n_, n_, n_, n_] (by kernel_rfl) rfl rfl ⟨((HB.out.cell (World.block_lt_of_cell? w _ hw227_0)).trans hw227_0), ((HB.out.cell (World.block_lt_of_cell? w _ hw227_1)).trans hw227_1), ((HB.out.cell (World.block_lt_of_cell? w _ hw227_2)).trans hw227_2), ((HB.out.cell (World.block_lt_of_cell? w _ hw228_0)).trans hw228_0), ((HB.out.cell (World.block_lt_of_cell? w _ hw228_1)).trans hw228_1), ((HB.out.cell (World.block_lt_of_cell? w _ hw228_2)).trans hw228_2)⟩ (fun hHeld => ?_); refine with_tabW cohousingref28_equation.tab16 cohousingref28_equation.bits16 (fun HT_ HW_ => ?_)
                  generalize w69.drew = w70 at HO_13 BK210 BK212 HB hx227_0 hx227_1 hx227_2 hx228_0 hx228_1 hx228_2 hHeld ⊢
                  refine pu_ 0 69 (w_ 16 1) rfl HT_ ?_
                  refine pu_ 1 70 (w_ 16 3) rfl HT_ ?_
                  refine pu_ 2 71 (w_ 16 7) rfl HT_ ?_
                  refine pu_ 3 72 (w_ 16 15) rfl HT_ ?_
                  refine pu_ 4 73 (w_ 16 31) rfl HT_ ?_
                  refine pu_ 5 74 (w_ 16 63) rfl HT_ ?_
                  refine pu_ 6 75 (w_ 16 127) rfl HT_ ?_
                  refine pu_ 7 76 (w_ 16 255) rfl HT_ ?_
                  refine pu_ 9 78 (w_ 16 767) rfl HT_ ?_
                  refine pu_ 10 79 (w_ 16 1791) rfl HT_ ?_
                  refine pu_ 11 80 (w_ 16 3839) rfl HT_ ?_
                  refine pu_ 12 81 (w_ 16 7935) rfl HT_ ?_
                  refine ta_ 8 77 (w_ 16 8191) rfl HT_ HW_ hHeld (by rintro w' ⟨s0, s1, s2, s3, s4, s5⟩; go_simp; with_reducible rfl) ?_
                  refine ta_ 13 82 (w_ 16 16383) rfl HT_ HW_ hHeld (by rintro w' ⟨s0, s1, s2, s3, s4, s5⟩; go_simp; with_reducible rfl) ?_
                  refine pu_ 14 83 (w_ 16 32767) rfl HT_ ?_
                  refine pu_ 15 84 (w_ 16 65535) rfl HT_ ?_
                  refine done_ (done_of HT_.out (by kernel_rfl)) ?_
                  try go_wp2
                  have n0_ := Aside0.mk (Kd.R_drew HO_13.out)
                  have n1_ := Aside0.mk (blk_drew BK210.out)
                  have n2_ := Aside0.mk (blk_drew BK212.out)
                  have n3_ := Aside0.mk (below_drew1 HB.out)
                  clear HO_13
                  clear BK210
                  clear BK212
                  clear HB
                  have HO_13 := n0_
                  have BK210 := n1_
                  have BK212 := n2_
                  have HB := n3_
                  clear n0_ n1_ n2_ n3_
                  have p229 : 0 ≤ (a2 : Int) := od_
                  have q229 : a2 < (l0.length : Int) := od_
                  obtain ⟨ad229, e229, hx229_0, hx229_1, hx229_2⟩ := at_T44 HR0.out a2 p229 q229
                  have hw229_2 := hx229_2
                  have hw229_1 := hx229_1
                  have hw229_0 := hx229_0
                  obtain rfl : ad207 = ad229 := (by injection e229)
                  replace hx229_0 := (HB.out.cell (World.block_lt_of_cell? w _ hx229_0)).trans hx229_0
                  replace hx229_1 := (HB.out.cell (World.block_lt_of_cell? w _ hx229_1)).trans hx229_1
                  replace hx229_2 := (HB.out.cell (World.block_lt_of_cell? w _ hx229_2)).trans hx229_2
                  replace p229 := eq_true p229
                  replace q229 := eq_true q229
                  refine start_ (n := 23) (S := fun w' => w'.cell? ⟨gb212, 0, none⟩ = some (.int .i64 ((rd_T46 l1 x14_2).f0)) ∧ w'.cell? ⟨gb212, 1, none⟩ = some (.int .i64 ((rd_T46 l1 x14_2).f1)) ∧ w'.cell? ⟨gb210, 0, none⟩ = some (.int .i64 t208) ∧ w'.cell? ⟨gb210, 1, none⟩ = some (.int .i64 t209) ∧ w'.cell? (ad207.add ((a2).toNat * 3)) = some (.int .i64 ((rd_T44 l0 a2).f0)) ∧ w'.cell? ⟨(ad207.add ((a2).toNat * 3)).block, (ad207.add ((a2).toNat * 3)).off + 1, none⟩ = some (.int .i64 ((rd_T44 l0 a2).f1)) ∧ w'.cell? ⟨(ad207.add ((a2).toNat * 3)).block, (ad207.add ((a2).toNat * 3)).off + 2, none⟩ = some (.int .i64 ((rd_T44 l0 a2).f2))) (ds := [22]) #[n_, n_, n_, n_, n_, n_, n_, n_, n_, n_, n_, n_, n_, n_, n_, n_, n_, n_, n_, n_, n_, n_, n_] (by kernel_rfl) rfl rfl ⟨(blk_cell BK212.out 0).trans rfl, (blk_cell BK212.out 1).trans rfl, (blk_cell BK210.out 0).trans rfl, (blk_cell BK210.out 1).trans rfl, ((HB.out.cell (World.block_lt_of_cell? w _ hw229_0)).trans hw229_0), ((HB.out.cell (World.block_lt_of_cell? w _ hw229_1)).trans hw229_1), ((HB.out.cell (World.block_lt_of_cell? w _ hw229_2)).trans hw229_2)⟩ (fun hHeld => ?_); refine with_tabW cohousingref28_equation.tab17 cohousingref28_equation.bits17 (fun HT_ HW_ => ?_)
                  generalize w70.drew = w71 at HO_13 BK210 BK212 HB hx229_0 hx229_1 hx229_2 hHeld ⊢
                  refine pu_ 1 86 (w_ 23 2) rfl HT_ ?_
                  refine pu_ 3 88 (w_ 23 10) rfl HT_ ?_
                  refine pu_ 4 89 (w_ 23 26) rfl HT_ ?_
                  refine pu_ 5 90 (w_ 23 58) rfl HT_ ?_
                  refine pu_ 6 91 (w_ 23 122) rfl HT_ ?_
                  refine pu_ 9 94 (w_ 23 634) rfl HT_ ?_
                  refine pu_ 10 95 (w_ 23 1658) rfl HT_ ?_
                  refine pu_ 14 99 (w_ 23 18042) rfl HT_ ?_
                  refine pu_ 16 101 (w_ 23 83578) rfl HT_ ?_
                  refine pu_ 17 102 (w_ 23 214650) rfl HT_ ?_
                  refine ta_ 0 85 (w_ 23 214651) rfl HT_ HW_ hHeld (by rintro w' ⟨s0, s1, s2, s3, s4, s5, s6⟩; go_simp; with_reducible rfl) ?_
                  refine ta_ 2 87 (w_ 23 214655) rfl HT_ HW_ hHeld (by rintro w' ⟨s0, s1, s2, s3, s4, s5, s6⟩; go_simp; with_reducible rfl) ?_
                  refine ta_ 7 92 (w_ 23 214783) rfl HT_ HW_ hHeld (by rintro w' ⟨s0, s1, s2, s3, s4, s5, s6⟩; go_simp; with_reducible rfl) ?_
                  refine pu_ 8 93 (w_ 23 215039) rfl HT_ ?_
                  refine ta_ 11 96 (w_ 23 217087) rfl HT_ HW_ hHeld (by rintro w' ⟨s0, s1, s2, s3, s4, s5, s6⟩; go_simp; with_reducible rfl) ?_
                  refine pu_ 12 97 (w_ 23 221183) rfl HT_ ?_
                  refine pu_ 13 98 (w_ 23 229375) rfl HT_ ?_
                  refine ta_ 15 100 (w_ 23 262143) rfl HT_ HW_ hHeld (by rintro w' ⟨s0, s1, s2, s3, s4, s5, s6⟩; go_simp; with_reducible rfl) ?_
                  refine ta_ 18 103 (w_ 23 524287) rfl HT_ HW_ hHeld (by rintro w' ⟨s0, s1, s2, s3, s4, s5, s6⟩; go_simp; with_reducible rfl) ?_
                  refine pu_ 19 104 (w_ 23 1048575) rfl HT_ ?_
                  refine pu_ 20 105 (w_ 23 2097151) rfl HT_ ?_
                  refine one_ (i := 21) (N := some 106) (w_ 23 4194303) rfl rfl (one_of HT_.out (by kernel_rfl)) (by decide) (fun K hK => ?_)
                  refine goes_ Try.func77 (by kernel_rfl) rfl #[.agg #[.int .i64 ((rd_T46 l1 x14_2).f0), .int .i64 ((rd_T46 l1 x14_2).f1)], .int .i64 (wrap64 ((wrap64 (t208 - ((rd_T44 l0 a2).f2))) - (wrap64 (x10_1 - ((rd_T46 l1 x14_2).f1))))), .int .i64 (wrap64 (t209 - (wrap64 (x9_1 - ((rd_T46 l1 x14_2).f0)))))] (by rfl) rfl rfl (by (try simp only [List.map_toArray, List.map_cons, List.map_nil]); first | done | rfl | (simp only [List.length_drop, List.length_take]; rfl)) ?_
                  with_reducible refine (cohousingref28_narrow.calls ((rd_T46 l1 x14_2).f0) ((rd_T46 l1 x14_2).f1) (wrap64 ((wrap64 (t208 - ((rd_T44 l0 a2).f2))) - (wrap64 (x10_1 - ((rd_T46 l1 x14_2).f1))))) (wrap64 (t209 - (wrap64 (x9_1 - ((rd_T46 l1 x14_2).f0))))) t230 t231 _ A64.out).mono ?_
                  rintro e w72 ⟨rfl, hb⟩
                  refine ⟨_, rfl, ?_⟩
                  have n0_ := Aside0.mk (Kd.R_below (rr_ HO_13) hb)
                  have n1_ := Aside0.mk (blk_below (g := gb210) (o := .cells #[.int .i64 t208, .int .i64 t209] 46 (0, 0)) (kk_ BK210) hb)
                  have n2_ := Aside0.mk (blk_below (g := gb212) (o := .cells #[.int .i64 ((rd_T46 l1 x14_2).f0), .int .i64 ((rd_T46 l1 x14_2).f1)] 46 (0, 0)) (kk_ BK212) hb)
                  have n3_ := Aside0.mk (below_step (by repeat (first | (with_reducible first | exact HB.out | apply below_alloc | apply pw_below_drewN | apply below_drew1 | refine below_set ?_ GE210.out | refine below_set ?_ GE212.out) | exact HB.out)) hb)
                  clear HO_13
                  clear BK210
                  clear BK212
                  clear HB
                  have HO_13 := n0_
                  have BK210 := n1_
                  have BK212 := n2_
                  have HB := n3_
                  clear n0_ n1_ n2_ n3_
                  (try clear hb)
                  (try clear hb2)
                  (try clear hk)
                  (try clear hi)
                  refine hK.out _ _ ⟨(blk_cell BK212.out 0).trans rfl, (blk_cell BK212.out 1).trans rfl, (blk_cell BK210.out 0).trans rfl, (blk_cell BK210.out 1).trans rfl, ((HB.out.cell (World.block_lt_of_cell? w _ hw229_0)).trans hw229_0), ((HB.out.cell (World.block_lt_of_cell? w _ hw229_1)).trans hw229_1), ((HB.out.cell (World.block_lt_of_cell? w _ hw229_2)).trans hw229_2)⟩ (fun hHeld => ?_)
                  clear hK K
                  refine norm_ (a' := ?_) ?_ ?_
                  rotate_left
                  ·show Act.put _ (some 106) _ = _
                   simp only [Act.put, sI_, s0_, sS_, i64_w, i32_w]
                   rfl
                  refine last_ (i := 22) (N := none) (w_ 23 8388607) rfl rfl (one_of HT_.out (by kernel_rfl)) (by decide) (fun K hK => ?_)
                  have hs73 : w72.cell? ⟨gb212, 0, none⟩ = some (.int .i64 ((rd_T46 l1 x14_2).f0)) := (blk_cell BK212.out 0).trans rfl
                  have hfs73 := blk_frozen BK212.out 0
                  have hns73_0 := NB210_212.out
                  have hms73_0 := NB212_210.out
                  have hs74 : w72.cell? ⟨gb212, 1, none⟩ = some (.int .i64 ((rd_T46 l1 x14_2).f1)) := (blk_cell BK212.out 1).trans rfl
                  have hfs74 := blk_frozen BK212.out 1
                  have hns74_0 := NB210_212.out
                  have hms74_0 := NB212_210.out
                  refine skip_ (w1 := ?_) (by rfl) rfl ?_ ?_
                  rotate_left
                  ·go_simp
                   rfl
                  refine hK.out _ _ ?_
                  clear hK K
                  refine done_ (done_of HT_.out (by kernel_rfl)) ?_
                  have hcz75_0 : w72.cell? ⟨gb212, 0, none⟩ = some (.int .i64 ((rd_T46 l1 x14_2).f0)) := (blk_cell BK212.out 0).trans rfl
                  have hcz75_1 : w72.cell? ⟨gb212, 1, none⟩ = some (.int .i64 ((rd_T46 l1 x14_2).f1)) := (blk_cell BK212.out 1).trans rfl
                  have hfz75_0 := blk_frozen BK212.out 0
                  have hfz75_1 := blk_frozen BK212.out 1
                  try go_wp2_with (first | ((with_reducible refine gate_builtin (b := .append) (xs := #[.tmp 107, .tmp 109]) rfl ?_); at_builtin; refine Kd.R_append k46 (w0 := w) w.heap.size rfl (.tmp 107) (.tmp 109) 23 46 (.agg #[(.int .i64 0), (.int .i64 0)]) 16 rfl Try.underlying23 info46 rfl (by decide) (by omega) u13 x13_2 (⟨t230, t231⟩ : S46) [.int .i64 t230, .int .i64 t231] (fun k_ => k_ ≠ gb210 ∧ k_ ≠ gb212) (fun _ => False) rfl (by first | (go_simp; done) | (go_simp; rfl)) ?aP (fun _ hk => hk.elim) ?aF ?aO ?aB ?aS ?aL ?_; (case aP => exact k46_mkM _ _ _ (⟨t230, t231⟩ : S46)); (case aB => exact (by repeat (first | (with_reducible first | exact HB.out | apply below_alloc | apply pw_below_drewN | apply below_drew1 | refine below_set ?_ GE210.out | refine below_set ?_ GE212.out) | exact HB.out))); (case aF => exact (fun k_ hk => ⟨Kd.freshB (g := gb210) (o := .cells #[.int .i64 t208, .int .i64 t209] 46 (0, 0)) (by (with_reducible repeat (first | refine blk_drewN ?_ _ | refine blk_drew ?_ | refine blk_alloc ?_ _)); refine blk_far ?_ NB210_212.out _; (with_reducible repeat (first | refine blk_drewN ?_ _ | refine blk_drew ?_ | refine blk_alloc ?_ _)); refine blk_far ?_ NB210_212.out _; (with_reducible repeat (first | refine blk_drewN ?_ _ | refine blk_drew ?_ | refine blk_alloc ?_ _)); exact BK210.out) k_ hk, Kd.freshB (g := gb212) (o := .cells #[.int .i64 t230, .int .i64 t231] 46 (0, 0)) (by (with_reducible repeat (first | refine blk_drewN ?_ _ | refine blk_drew ?_ | refine blk_alloc ?_ _)); refine blk_put (cs := #[.int .i64 t230, .int .i64 ((rd_T46 l1 x14_2).f1)]) ?_ 1 _ rfl; (with_reducible repeat (first | refine blk_drewN ?_ _ | refine blk_drew ?_ | refine blk_alloc ?_ _)); refine blk_put (cs := #[.int .i64 ((rd_T46 l1 x14_2).f0), .int .i64 ((rd_T46 l1 x14_2).f1)]) ?_ 0 _ rfl; (with_reducible repeat (first | refine blk_drewN ?_ _ | refine blk_drew ?_ | refine blk_alloc ?_ _)); exact BK212.out) k_ hk⟩)); (case aO => exact (by (with_reducible repeat (first | apply Kd.R_alloc | apply Kd.R_drewN | apply Kd.R_drew)); exact Kd.R_mono (Kd.R_far (p := ⟨gb212, 1, none⟩) (Kd.R_far (p := ⟨gb212, 0, none⟩) (Kd.R_mono HO_13.out (fun k_ hk => (⟨hk, hk.2⟩ : _ ∧ k_ ≠ gb212))) (fun _ hk => hk.2) (.int .i64 t230)) (fun _ hk => hk.2) (.int .i64 t231)) (fun _ hk => ⟨hk.1.1, hk.1.2⟩))); (case aS => exact (below_size (by repeat (first | (with_reducible first | exact HB.out | apply below_alloc | apply pw_below_drewN | apply below_drew1 | refine below_set ?_ GE210.out | refine below_set ?_ GE212.out) | exact HB.out)))); (case aL => have := LMc65.out; omega); intro v233 w76 ho hb hg hat; rw [← Ny232.out] at ho; have n0_ := Aside0.mk (blk_grown (g := gb210) (o := .cells #[.int .i64 t208, .int .i64 t209] 46 (0, 0)) (by (with_reducible repeat (first | refine blk_drewN ?_ _ | refine blk_drew ?_ | refine blk_alloc ?_ _)); refine blk_far ?_ NB210_212.out _; (with_reducible repeat (first | refine blk_drewN ?_ _ | refine blk_drew ?_ | refine blk_alloc ?_ _)); refine blk_far ?_ NB210_212.out _; (with_reducible repeat (first | refine blk_drewN ?_ _ | refine blk_drew ?_ | refine blk_alloc ?_ _)); exact BK210.out) hg (Kd.R_away HO_13.out (fun _ hk => hk.1))); have n1_ := Aside0.mk (blk_grown (g := gb212) (o := .cells #[.int .i64 t230, .int .i64 t231] 46 (0, 0)) (by (with_reducible repeat (first | refine blk_drewN ?_ _ | refine blk_drew ?_ | refine blk_alloc ?_ _)); refine blk_put (cs := #[.int .i64 t230, .int .i64 ((rd_T46 l1 x14_2).f1)]) ?_ 1 _ rfl; (with_reducible repeat (first | refine blk_drewN ?_ _ | refine blk_drew ?_ | refine blk_alloc ?_ _)); refine blk_put (cs := #[.int .i64 ((rd_T46 l1 x14_2).f0), .int .i64 ((rd_T46 l1 x14_2).f1)]) ?_ 0 _ rfl; (with_reducible repeat (first | refine blk_drewN ?_ _ | refine blk_drew ?_ | refine blk_alloc ?_ _)); exact BK212.out) hg (Kd.R_away HO_13.out (fun _ hk => hk.2))); have n2_ := Aside0.mk (hb); have n3_ := Aside0.mk (ho); clear BK210; clear BK212; clear HB; clear HO_13; have BK210 := n0_; have BK212 := n1_; have HB := n2_; have HO234 := n3_; clear n0_ n1_ n2_ n3_; clear ho hb hg hat))
                  go_roundg k2
                  case measure => have := HK1.out; have := HK2.out; omega
                  case rel => exact ⟨(y232), (wrap64 (x14_2 + 1)), sd_, H', ⟨by have := HK1.out; have := HK2.out; omega⟩, ⟨by (with_reducible repeat (first | apply Kd.R_alloc | apply Kd.R_drewN | apply Kd.R_drew)); exact Kd.R_mono HO234.out (fun _ hk => hk.1)⟩, ⟨by (with_reducible repeat (first | refine blk_drewN ?_ _ | refine blk_drew ?_ | refine blk_alloc ?_ _)); exact BK210.out⟩, ⟨by repeat (first | (with_reducible first | exact HB.out | apply below_alloc | apply pw_below_drewN | apply below_drew1 | refine below_set ?_ GE210.out | refine below_set ?_ GE212.out) | exact HB.out)⟩⟩
                 ·rw [if_neg c65] at H
                  exact absurd H (by simp)
                ·rw [if_neg c63] at H
                 have c63b0 : (((rd_T44 l0 x14_2).f1) == ((rd_T44 l0 a2).f0)) = false := beq_eq_false_iff_ne.mpr c63
                 have c63b1 : (((rd_T44 l0 x14_2).f1) != ((rd_T44 l0 a2).f0)) = true := bne_iff_ne.mpr c63
                 by_cases c77 : x13_2.length < 8796093022208
                 ·rw [if_pos c77] at H
                  have LMc77 := Aside0.mk c77
                  clear c77
                  obtain ⟨y235, hy235⟩ : ∃ y_ : List (S46), y_ = (x13_2 ++ [(⟨(rd_T46 l1 x14_2).f0, (rd_T46 l1 x14_2).f1⟩ : S46)]) := ⟨_, rfl⟩
                  replace H : (cohousingref28_equation.l1 k2 l0 l1 a2 x9_1 x10_1 y235 (wrap64 (x14_2 + 1)) t208 t209) = some r := by first | (rw [hy235]; with_reducible exact H) | (have H2_ := (Option.bind_some _ _).symm.trans H; rw [hy235]; with_reducible exact H2_) | (have H2_ := (Option.bind_some _ _).symm.trans H; with_reducible exact H2_) | with_reducible exact H | (rw [hy235]; exact H) | exact H
                  have Ny235 := Aside0.mk hy235
                  clear hy235
                  have H' := Aside0.mk H
                  clear H
                  have p211 : 0 ≤ (x14_2 : Int) := od_
                  have q211 : x14_2 < (l1.length : Int) := od_
                  obtain ⟨ad211, e211, hx211_0, hx211_1⟩ := at_T46 HR1.out x14_2 p211 q211
                  obtain rfl : ad206 = ad211 := (by injection e211)
                  replace hx211_0 := (HB.out.cell (World.block_lt_of_cell? w _ hx211_0)).trans hx211_0
                  replace hx211_1 := (HB.out.cell (World.block_lt_of_cell? w _ hx211_1)).trans hx211_1
                  replace p211 := eq_true p211
                  replace q211 := eq_true q211
                  try go_wp2_with (first | ((with_reducible refine gate_dst (N := 15) rfl ?_); refine box_event ?hg (N := 15) ?hd (cs := #[.int .i64 0, .int .i64 0]) (t := 46) ?hr ?_; (case hd => rfl); (case hg => rfl); (case hr => first | (go_simp; done) | (go_simp; rfl)); intro gb212 hg w78 hbox hb; have n0_ := Aside0.mk (Kd.R_below (Kd.R_elderB (rr_ HO_13) gb212 (Nat.le_of_eq hg.symm)) hb); have n1_ := Aside0.mk (blk_below (g := gb210) (o := .cells #[.int .i64 t208, .int .i64 t209] 46 (0, 0)) (kk_ BK210) hb); have n2_ := Aside0.mk (below_step (bs_ HB GE210.out) hb); have n3_ := Aside0.mk (hbox); have n4_ := Aside0.mk ((by rw [hg]; exact (below_size (bs_ HB GE210.out)) : w.heap.size ≤ gb212)); have n5_ := Aside0.mk ((by rw [hg]; exact (below_size (bs_ HB GE210.out)) : w.heap.size ≤ gb212)); have n6_ := Aside0.mk ((by rw [hg]; exact Nat.ne_of_lt (blk_lt (g := gb210) (o := .cells #[.int .i64 t208, .int .i64 t209] 46 (0, 0)) (kk_ BK210)) : gb210 ≠ gb212)); have n7_ := Aside0.mk ((by rw [hg]; exact Nat.ne_of_gt (blk_lt (g := gb210) (o := .cells #[.int .i64 t208, .int .i64 t209] 46 (0, 0)) (kk_ BK210)) : gb212 ≠ gb210)); clear HO_13; clear BK210; clear HB; have HO_13 := n0_; have BK210 := n1_; have HB := n2_; have BK212 := n3_; have GW212 := n4_; have GE212 := n5_; have NB210_212 := n6_; have NB212_210 := n7_; clear n0_ n1_ n2_ n3_ n4_ n5_ n6_ n7_; clear hb hbox hg; have hnb79 := NB212_210.out; have hnc79 := NB210_212.out; have hcz80_0 : w78.cell? ⟨gb212, 0, none⟩ = some (.int .i64 0) := (blk_cell BK212.out 0).trans rfl; have hcz80_1 : w78.cell? ⟨gb212, 1, none⟩ = some (.int .i64 0) := (blk_cell BK212.out 1).trans rfl; have hfz80_0 := blk_frozen BK212.out 0; have hfz80_1 := blk_frozen BK212.out 1))
                  have n0_ : Aside0 (Kd.R k46 46 ((w78.setCell ⟨gb212, 0, none⟩ (.int .i64 ((rd_T46 l1 x14_2).f0))).setCell ⟨gb212, 1, none⟩ (.int .i64 ((rd_T46 l1 x14_2).f1))) w.heap.size (fun k_ => k_ ≠ gb210 ∧ k_ ≠ gb212) u13 x13_2) := ⟨by (with_reducible repeat (first | apply Kd.R_alloc | apply Kd.R_drewN | apply Kd.R_drew)); exact Kd.R_mono (Kd.R_far (p := ⟨gb212, 1, none⟩) (Kd.R_far (p := ⟨gb212, 0, none⟩) (Kd.R_mono HO_13.out (fun k_ hk => (⟨hk, hk.2⟩ : _ ∧ k_ ≠ gb212))) (fun _ hk => hk.2) (.int .i64 ((rd_T46 l1 x14_2).f0))) (fun _ hk => hk.2) (.int .i64 ((rd_T46 l1 x14_2).f1))) (fun _ hk => ⟨hk.1.1, hk.1.2⟩)⟩
                  have n1_ : Aside0 (((w78.setCell ⟨gb212, 0, none⟩ (.int .i64 ((rd_T46 l1 x14_2).f0))).setCell ⟨gb212, 1, none⟩ (.int .i64 ((rd_T46 l1 x14_2).f1))).heap[gb210]? = some (.cells #[.int .i64 t208, .int .i64 t209] 46 (0, 0))) := ⟨by (with_reducible repeat (first | refine blk_drewN ?_ _ | refine blk_drew ?_ | refine blk_alloc ?_ _)); refine blk_far ?_ NB210_212.out _; (with_reducible repeat (first | refine blk_drewN ?_ _ | refine blk_drew ?_ | refine blk_alloc ?_ _)); refine blk_far ?_ NB210_212.out _; (with_reducible repeat (first | refine blk_drewN ?_ _ | refine blk_drew ?_ | refine blk_alloc ?_ _)); exact BK210.out⟩
                  have n2_ : Aside0 (((w78.setCell ⟨gb212, 0, none⟩ (.int .i64 ((rd_T46 l1 x14_2).f0))).setCell ⟨gb212, 1, none⟩ (.int .i64 ((rd_T46 l1 x14_2).f1))).heap[gb212]? = some (.cells #[.int .i64 ((rd_T46 l1 x14_2).f0), .int .i64 ((rd_T46 l1 x14_2).f1)] 46 (0, 0))) := ⟨by (with_reducible repeat (first | refine blk_drewN ?_ _ | refine blk_drew ?_ | refine blk_alloc ?_ _)); refine blk_put (cs := #[.int .i64 ((rd_T46 l1 x14_2).f0), .int .i64 0]) ?_ 1 _ rfl; (with_reducible repeat (first | refine blk_drewN ?_ _ | refine blk_drew ?_ | refine blk_alloc ?_ _)); refine blk_put (cs := #[.int .i64 0, .int .i64 0]) ?_ 0 _ rfl; (with_reducible repeat (first | refine blk_drewN ?_ _ | refine blk_drew ?_ | refine blk_alloc ?_ _)); exact BK212.out⟩
                  have n3_ : Aside0 (Below w.heap.size w ((w78.setCell ⟨gb212, 0, none⟩ (.int .i64 ((rd_T46 l1 x14_2).f0))).setCell ⟨gb212, 1, none⟩ (.int .i64 ((rd_T46 l1 x14_2).f1)))) := ⟨by repeat (first | (with_reducible first | exact HB.out | apply below_alloc | apply pw_below_drewN | apply below_drew1 | refine below_set ?_ GE210.out | refine below_set ?_ GE212.out) | exact HB.out)⟩
                  (try clear HO_13)
                  (try clear BK210)
                  (try clear BK212)
                  (try clear HB)
                  generalize ((w78.setCell ⟨gb212, 0, none⟩ (.int .i64 ((rd_T46 l1 x14_2).f0))).setCell ⟨gb212, 1, none⟩ (.int .i64 ((rd_T46 l1 x14_2).f1))) = w81 at n0_ n1_ n2_ n3_ ⊢
                  have HO_13 := n0_
                  have BK210 := n1_
                  have BK212 := n2_
                  have HB := n3_
                  clear n0_ n1_ n2_ n3_
                  have n0_ := Aside0.mk (Kd.R_drew HO_13.out)
                  have n1_ := Aside0.mk (blk_drew BK210.out)
                  have n2_ := Aside0.mk (blk_drew BK212.out)
                  have n3_ := Aside0.mk (below_drew1 HB.out)
                  clear HO_13
                  clear BK210
                  clear BK212
                  clear HB
                  have HO_13 := n0_
                  have BK210 := n1_
                  have BK212 := n2_
                  have HB := n3_
                  clear n0_ n1_ n2_ n3_
                  have p227 : 0 ≤ (x14_2 : Int) := od_
                  have q227 : x14_2 < (l0.length : Int) := od_
                  obtain ⟨ad227, e227, hx227_0, hx227_1, hx227_2⟩ := at_T44 HR0.out x14_2 p227 q227
                  have hw227_2 := hx227_2
                  have hw227_1 := hx227_1
                  have hw227_0 := hx227_0
                  obtain rfl : ad207 = ad227 := (by injection e227)
                  replace hx227_0 := (HB.out.cell (World.block_lt_of_cell? w _ hx227_0)).trans hx227_0
                  replace hx227_1 := (HB.out.cell (World.block_lt_of_cell? w _ hx227_1)).trans hx227_1
                  replace hx227_2 := (HB.out.cell (World.block_lt_of_cell? w _ hx227_2)).trans hx227_2
                  replace p227 := eq_true p227
                  replace q227 := eq_true q227
                  have p228 : 0 ≤ (a2 : Int) := od_
                  have q228 : a2 < (l0.length : Int) := od_
                  obtain ⟨ad228, e228, hx228_0, hx228_1, hx228_2⟩ := at_T44 HR0.out a2 p228 q228
                  have hw228_2 := hx228_2
                  have hw228_1 := hx228_1
                  have hw228_0 := hx228_0
                  obtain rfl : ad207 = ad228 := (by injection e228)
                  replace hx228_0 := (HB.out.cell (World.block_lt_of_cell? w _ hx228_0)).trans hx228_0
                  replace hx228_1 := (HB.out.cell (World.block_lt_of_cell? w _ hx228_1)).trans hx228_1
                  replace hx228_2 := (HB.out.cell (World.block_lt_of_cell? w _ hx228_2)).trans hx228_2
                  replace p228 := eq_true p228
                  replace q228 := eq_true q228
                  refine start_ (n := 16) (S := fun w' => w'.cell? (ad207.add ((x14_2).toNat * 3)) = some (.int .i64 ((rd_T44 l0 x14_2).f0)) ∧ w'.cell? ⟨(ad207.add ((x14_2).toNat * 3)).block, (ad207.add ((x14_2).toNat * 3)).off + 1, none⟩ = some (.int .i64 ((rd_T44 l0 x14_2).f1)) ∧ w'.cell? ⟨(ad207.add ((x14_2).toNat * 3)).block, (ad207.add ((x14_2).toNat * 3)).off + 2, none⟩ = some (.int .i64 ((rd_T44 l0 x14_2).f2)) ∧ w'.cell? (ad207.add ((a2).toNat * 3)) = some (.int .i64 ((rd_T44 l0 a2).f0)) ∧ w'.cell? ⟨(ad207.add ((a2).toNat * 3)).block, (ad207.add ((a2).toNat * 3)).off + 1, none⟩ = some (.int .i64 ((rd_T44 l0 a2).f1)) ∧ w'.cell? ⟨(ad207.add ((a2).toNat * 3)).block, (ad207.add ((a2).toNat * 3)).off + 2, none⟩ = some (.int .i64 ((rd_T44 l0 a2).f2))) (ds := []) #[n_, n_, n_, n_, n_, n_, n_, n_, n_, n_, n_, n_, n_, n_, n_, n_] (by kernel_rfl) rfl rfl ⟨((HB.out.cell (World.block_lt_of_cell? w _ hw227_0)).trans hw227_0), ((HB.out.cell (World.block_lt_of_cell? w _ hw227_1)).trans hw227_1), ((HB.out.cell (World.block_lt_of_cell? w _ hw227_2)).trans hw227_2), ((HB.out.cell (World.block_lt_of_cell? w _ hw228_0)).trans hw228_0), ((HB.out.cell (World.block_lt_of_cell? w _ hw228_1)).trans hw228_1), ((HB.out.cell (World.block_lt_of_cell? w _ hw228_2)).trans hw228_2)⟩ (fun hHeld => ?_); refine with_tabW cohousingref28_equation.tab16 cohousingref28_equation.bits16 (fun HT_ HW_ => ?_)
                  generalize w81.drew = w82 at HO_13 BK210 BK212 HB hx227_0 hx227_1 hx227_2 hx228_0 hx228_1 hx228_2 hHeld ⊢
                  refine pu_ 0 69 (w_ 16 1) rfl HT_ ?_
                  refine pu_ 1 70 (w_ 16 3) rfl HT_ ?_
                  refine pu_ 2 71 (w_ 16 7) rfl HT_ ?_
                  refine pu_ 3 72 (w_ 16 15) rfl HT_ ?_
                  refine pu_ 4 73 (w_ 16 31) rfl HT_ ?_
                  refine pu_ 5 74 (w_ 16 63) rfl HT_ ?_
                  refine pu_ 6 75 (w_ 16 127) rfl HT_ ?_
                  refine pu_ 7 76 (w_ 16 255) rfl HT_ ?_
                  refine pu_ 9 78 (w_ 16 767) rfl HT_ ?_
                  refine pu_ 10 79 (w_ 16 1791) rfl HT_ ?_
                  refine pu_ 11 80 (w_ 16 3839) rfl HT_ ?_
                  refine pu_ 12 81 (w_ 16 7935) rfl HT_ ?_
                  refine ta_ 8 77 (w_ 16 8191) rfl HT_ HW_ hHeld (by rintro w' ⟨s0, s1, s2, s3, s4, s5⟩; go_simp; with_reducible rfl) ?_
                  refine ta_ 13 82 (w_ 16 16383) rfl HT_ HW_ hHeld (by rintro w' ⟨s0, s1, s2, s3, s4, s5⟩; go_simp; with_reducible rfl) ?_
                  refine pu_ 14 83 (w_ 16 32767) rfl HT_ ?_
                  refine pu_ 15 84 (w_ 16 65535) rfl HT_ ?_
                  refine done_ (done_of HT_.out (by kernel_rfl)) ?_
                  have hcz83_0 : w82.cell? ⟨gb212, 0, none⟩ = some (.int .i64 ((rd_T46 l1 x14_2).f0)) := (blk_cell BK212.out 0).trans rfl
                  have hcz83_1 : w82.cell? ⟨gb212, 1, none⟩ = some (.int .i64 ((rd_T46 l1 x14_2).f1)) := (blk_cell BK212.out 1).trans rfl
                  have hfz83_0 := blk_frozen BK212.out 0
                  have hfz83_1 := blk_frozen BK212.out 1
                  try go_wp2_with (first | ((with_reducible refine gate_builtin (b := .append) (xs := #[.tmp 107, .tmp 109]) rfl ?_); at_builtin; refine Kd.R_append k46 (w0 := w) w.heap.size rfl (.tmp 107) (.tmp 109) 23 46 (.agg #[(.int .i64 0), (.int .i64 0)]) 16 rfl Try.underlying23 info46 rfl (by decide) (by omega) u13 x13_2 (⟨(rd_T46 l1 x14_2).f0, (rd_T46 l1 x14_2).f1⟩ : S46) [.int .i64 ((rd_T46 l1 x14_2).f0), .int .i64 ((rd_T46 l1 x14_2).f1)] (fun k_ => k_ ≠ gb210 ∧ k_ ≠ gb212) (fun _ => False) rfl rfl ?aP (fun _ hk => hk.elim) ?aF ?aO ?aB ?aS ?aL ?_; (case aP => exact k46_mkM _ _ _ (⟨(rd_T46 l1 x14_2).f0, (rd_T46 l1 x14_2).f1⟩ : S46)); (case aB => exact (by repeat (first | (with_reducible first | exact HB.out | apply below_alloc | apply pw_below_drewN | apply below_drew1 | refine below_set ?_ GE210.out | refine below_set ?_ GE212.out) | exact HB.out))); (case aF => exact (fun k_ hk => ⟨Kd.freshB (g := gb210) (o := .cells #[.int .i64 t208, .int .i64 t209] 46 (0, 0)) (kk_ BK210) k_ hk, Kd.freshB (g := gb212) (o := .cells #[.int .i64 ((rd_T46 l1 x14_2).f0), .int .i64 ((rd_T46 l1 x14_2).f1)] 46 (0, 0)) (kk_ BK212) k_ hk⟩)); (case aO => exact (rr_ HO_13)); (case aS => exact (below_size (by repeat (first | (with_reducible first | exact HB.out | apply below_alloc | apply pw_below_drewN | apply below_drew1 | refine below_set ?_ GE210.out | refine below_set ?_ GE212.out) | exact HB.out)))); (case aL => have := LMc77.out; omega); intro v236 w84 ho hb hg hat; rw [← Ny235.out] at ho; have n0_ := Aside0.mk (blk_grown (g := gb210) (o := .cells #[.int .i64 t208, .int .i64 t209] 46 (0, 0)) (kk_ BK210) hg (Kd.R_away HO_13.out (fun _ hk => hk.1))); have n1_ := Aside0.mk (blk_grown (g := gb212) (o := .cells #[.int .i64 ((rd_T46 l1 x14_2).f0), .int .i64 ((rd_T46 l1 x14_2).f1)] 46 (0, 0)) (kk_ BK212) hg (Kd.R_away HO_13.out (fun _ hk => hk.2))); have n2_ := Aside0.mk (hb); have n3_ := Aside0.mk (ho); clear BK210; clear BK212; clear HB; clear HO_13; have BK210 := n0_; have BK212 := n1_; have HB := n2_; have HO237 := n3_; clear n0_ n1_ n2_ n3_; clear ho hb hg hat))
                  go_roundg k2
                  case measure => have := HK1.out; have := HK2.out; omega
                  case rel => exact ⟨(y235), (wrap64 (x14_2 + 1)), sd_, H', ⟨by have := HK1.out; have := HK2.out; omega⟩, ⟨by (with_reducible repeat (first | apply Kd.R_alloc | apply Kd.R_drewN | apply Kd.R_drew)); exact Kd.R_mono HO237.out (fun _ hk => hk.1)⟩, ⟨by (with_reducible repeat (first | refine blk_drewN ?_ _ | refine blk_drew ?_ | refine blk_alloc ?_ _)); exact BK210.out⟩, ⟨by repeat (first | (with_reducible first | exact HB.out | apply below_alloc | apply pw_below_drewN | apply below_drew1 | refine below_set ?_ GE210.out | refine below_set ?_ GE212.out) | exact HB.out)⟩⟩
                 ·rw [if_neg c77] at H
                  exact absurd H (by simp)
               ·rw [if_neg c62] at H
                exact absurd H (by simp)
              ·rw [if_neg c61] at H
               exact absurd H (by simp)
             ·rw [if_neg c60] at H
              exact absurd H (by simp)
            ·rw [if_neg c59] at H
             have c59b0 : decide (a2 < x14_2) = false := decide_eq_false c59
             clear c59
             by_cases c85 : x13_2.length < 8796093022208
             ·rw [if_pos c85] at H
              have LMc85 := Aside0.mk c85
              clear c85
              obtain ⟨y238, hy238⟩ : ∃ y_ : List (S46), y_ = (x13_2 ++ [(⟨(rd_T46 l1 x14_2).f0, (rd_T46 l1 x14_2).f1⟩ : S46)]) := ⟨_, rfl⟩
              replace H : (cohousingref28_equation.l1 k2 l0 l1 a2 x9_1 x10_1 y238 (wrap64 (x14_2 + 1)) t208 t209) = some r := by first | (rw [hy238]; with_reducible exact H) | (have H2_ := (Option.bind_some _ _).symm.trans H; rw [hy238]; with_reducible exact H2_) | (have H2_ := (Option.bind_some _ _).symm.trans H; with_reducible exact H2_) | with_reducible exact H | (rw [hy238]; exact H) | exact H
              have Ny238 := Aside0.mk hy238
              clear hy238
              have H' := Aside0.mk H
              clear H
              have p211 : 0 ≤ (x14_2 : Int) := od_
              have q211 : x14_2 < (l1.length : Int) := od_
              obtain ⟨ad211, e211, hx211_0, hx211_1⟩ := at_T46 HR1.out x14_2 p211 q211
              obtain rfl : ad206 = ad211 := (by injection e211)
              replace hx211_0 := (HB.out.cell (World.block_lt_of_cell? w _ hx211_0)).trans hx211_0
              replace hx211_1 := (HB.out.cell (World.block_lt_of_cell? w _ hx211_1)).trans hx211_1
              replace p211 := eq_true p211
              replace q211 := eq_true q211
              try go_wp2_with (first | ((with_reducible refine gate_dst (N := 15) rfl ?_); refine box_event ?hg (N := 15) ?hd (cs := #[.int .i64 0, .int .i64 0]) (t := 46) ?hr ?_; (case hd => rfl); (case hg => rfl); (case hr => first | (go_simp; done) | (go_simp; rfl)); intro gb212 hg w86 hbox hb; have n0_ := Aside0.mk (Kd.R_below (Kd.R_elderB (rr_ HO_13) gb212 (Nat.le_of_eq hg.symm)) hb); have n1_ := Aside0.mk (blk_below (g := gb210) (o := .cells #[.int .i64 t208, .int .i64 t209] 46 (0, 0)) (kk_ BK210) hb); have n2_ := Aside0.mk (below_step (bs_ HB GE210.out) hb); have n3_ := Aside0.mk (hbox); have n4_ := Aside0.mk ((by rw [hg]; exact (below_size (bs_ HB GE210.out)) : w.heap.size ≤ gb212)); have n5_ := Aside0.mk ((by rw [hg]; exact (below_size (bs_ HB GE210.out)) : w.heap.size ≤ gb212)); have n6_ := Aside0.mk ((by rw [hg]; exact Nat.ne_of_lt (blk_lt (g := gb210) (o := .cells #[.int .i64 t208, .int .i64 t209] 46 (0, 0)) (kk_ BK210)) : gb210 ≠ gb212)); have n7_ := Aside0.mk ((by rw [hg]; exact Nat.ne_of_gt (blk_lt (g := gb210) (o := .cells #[.int .i64 t208, .int .i64 t209] 46 (0, 0)) (kk_ BK210)) : gb212 ≠ gb210)); clear HO_13; clear BK210; clear HB; have HO_13 := n0_; have BK210 := n1_; have HB := n2_; have BK212 := n3_; have GW212 := n4_; have GE212 := n5_; have NB210_212 := n6_; have NB212_210 := n7_; clear n0_ n1_ n2_ n3_ n4_ n5_ n6_ n7_; clear hb hbox hg; have hnb87 := NB212_210.out; have hnc87 := NB210_212.out; have hcz88_0 : w86.cell? ⟨gb212, 0, none⟩ = some (.int .i64 0) := (blk_cell BK212.out 0).trans rfl; have hcz88_1 : w86.cell? ⟨gb212, 1, none⟩ = some (.int .i64 0) := (blk_cell BK212.out 1).trans rfl; have hfz88_0 := blk_frozen BK212.out 0; have hfz88_1 := blk_frozen BK212.out 1))
              have n0_ : Aside0 (Kd.R k46 46 ((w86.setCell ⟨gb212, 0, none⟩ (.int .i64 ((rd_T46 l1 x14_2).f0))).setCell ⟨gb212, 1, none⟩ (.int .i64 ((rd_T46 l1 x14_2).f1))) w.heap.size (fun k_ => k_ ≠ gb210 ∧ k_ ≠ gb212) u13 x13_2) := ⟨by (with_reducible repeat (first | apply Kd.R_alloc | apply Kd.R_drewN | apply Kd.R_drew)); exact Kd.R_mono (Kd.R_far (p := ⟨gb212, 1, none⟩) (Kd.R_far (p := ⟨gb212, 0, none⟩) (Kd.R_mono HO_13.out (fun k_ hk => (⟨hk, hk.2⟩ : _ ∧ k_ ≠ gb212))) (fun _ hk => hk.2) (.int .i64 ((rd_T46 l1 x14_2).f0))) (fun _ hk => hk.2) (.int .i64 ((rd_T46 l1 x14_2).f1))) (fun _ hk => ⟨hk.1.1, hk.1.2⟩)⟩
              have n1_ : Aside0 (((w86.setCell ⟨gb212, 0, none⟩ (.int .i64 ((rd_T46 l1 x14_2).f0))).setCell ⟨gb212, 1, none⟩ (.int .i64 ((rd_T46 l1 x14_2).f1))).heap[gb210]? = some (.cells #[.int .i64 t208, .int .i64 t209] 46 (0, 0))) := ⟨by (with_reducible repeat (first | refine blk_drewN ?_ _ | refine blk_drew ?_ | refine blk_alloc ?_ _)); refine blk_far ?_ NB210_212.out _; (with_reducible repeat (first | refine blk_drewN ?_ _ | refine blk_drew ?_ | refine blk_alloc ?_ _)); refine blk_far ?_ NB210_212.out _; (with_reducible repeat (first | refine blk_drewN ?_ _ | refine blk_drew ?_ | refine blk_alloc ?_ _)); exact BK210.out⟩
              have n2_ : Aside0 (((w86.setCell ⟨gb212, 0, none⟩ (.int .i64 ((rd_T46 l1 x14_2).f0))).setCell ⟨gb212, 1, none⟩ (.int .i64 ((rd_T46 l1 x14_2).f1))).heap[gb212]? = some (.cells #[.int .i64 ((rd_T46 l1 x14_2).f0), .int .i64 ((rd_T46 l1 x14_2).f1)] 46 (0, 0))) := ⟨by (with_reducible repeat (first | refine blk_drewN ?_ _ | refine blk_drew ?_ | refine blk_alloc ?_ _)); refine blk_put (cs := #[.int .i64 ((rd_T46 l1 x14_2).f0), .int .i64 0]) ?_ 1 _ rfl; (with_reducible repeat (first | refine blk_drewN ?_ _ | refine blk_drew ?_ | refine blk_alloc ?_ _)); refine blk_put (cs := #[.int .i64 0, .int .i64 0]) ?_ 0 _ rfl; (with_reducible repeat (first | refine blk_drewN ?_ _ | refine blk_drew ?_ | refine blk_alloc ?_ _)); exact BK212.out⟩
              have n3_ : Aside0 (Below w.heap.size w ((w86.setCell ⟨gb212, 0, none⟩ (.int .i64 ((rd_T46 l1 x14_2).f0))).setCell ⟨gb212, 1, none⟩ (.int .i64 ((rd_T46 l1 x14_2).f1)))) := ⟨by repeat (first | (with_reducible first | exact HB.out | apply below_alloc | apply pw_below_drewN | apply below_drew1 | refine below_set ?_ GE210.out | refine below_set ?_ GE212.out) | exact HB.out)⟩
              (try clear HO_13)
              (try clear BK210)
              (try clear BK212)
              (try clear HB)
              generalize ((w86.setCell ⟨gb212, 0, none⟩ (.int .i64 ((rd_T46 l1 x14_2).f0))).setCell ⟨gb212, 1, none⟩ (.int .i64 ((rd_T46 l1 x14_2).f1))) = w89 at n0_ n1_ n2_ n3_ ⊢
              have HO_13 := n0_
              have BK210 := n1_
              have BK212 := n2_
              have HB := n3_
              clear n0_ n1_ n2_ n3_
              have n0_ := Aside0.mk (Kd.R_drew HO_13.out)
              have n1_ := Aside0.mk (blk_drew BK210.out)
              have n2_ := Aside0.mk (blk_drew BK212.out)
              have n3_ := Aside0.mk (below_drew1 HB.out)
              clear HO_13
              clear BK210
              clear BK212
              clear HB
              have HO_13 := n0_
              have BK210 := n1_
              have BK212 := n2_
              have HB := n3_
              clear n0_ n1_ n2_ n3_
              refine start_ (n := 16) (S := fun w' => True) (ds := []) #[n_, n_, n_, n_, n_, n_, n_, n_, n_, n_, n_, n_, n_, n_, n_, n_] (by kernel_rfl) rfl rfl trivial (fun hHeld => ?_); refine with_tabW cohousingref28_equation.tab16 cohousingref28_equation.bits16 (fun HT_ HW_ => ?_)
              generalize w89.drew = w90 at HO_13 BK210 BK212 HB hHeld ⊢
              refine pu_ 0 69 (w_ 16 1) rfl HT_ ?_
              refine pu_ 1 70 (w_ 16 3) rfl HT_ ?_
              refine pu_ 2 71 (w_ 16 7) rfl HT_ ?_
              refine pu_ 3 72 (w_ 16 15) rfl HT_ ?_
              refine pn_ 4 73 (w_ 16 31) rfl HT_ ?_
              refine pn_ 5 74 (w_ 16 63) rfl HT_ ?_
              refine pn_ 6 75 (w_ 16 127) rfl HT_ ?_
              refine pn_ 7 76 (w_ 16 255) rfl HT_ ?_
              refine pn_ 8 77 (w_ 16 511) rfl HT_ ?_
              refine pn_ 9 78 (w_ 16 1023) rfl HT_ ?_
              refine pn_ 10 79 (w_ 16 2047) rfl HT_ ?_
              refine pn_ 11 80 (w_ 16 4095) rfl HT_ ?_
              refine pn_ 12 81 (w_ 16 8191) rfl HT_ ?_
              refine pn_ 13 82 (w_ 16 16383) rfl HT_ ?_
              refine pn_ 14 83 (w_ 16 32767) rfl HT_ ?_
              refine pu_ 15 84 (w_ 16 65535) rfl HT_ ?_
              refine done_ (done_of HT_.out (by kernel_rfl)) ?_
              have hcz91_0 : w90.cell? ⟨gb212, 0, none⟩ = some (.int .i64 ((rd_T46 l1 x14_2).f0)) := (blk_cell BK212.out 0).trans rfl
              have hcz91_1 : w90.cell? ⟨gb212, 1, none⟩ = some (.int .i64 ((rd_T46 l1 x14_2).f1)) := (blk_cell BK212.out 1).trans rfl
              have hfz91_0 := blk_frozen BK212.out 0
              have hfz91_1 := blk_frozen BK212.out 1
              try go_wp2_with (first | ((with_reducible refine gate_builtin (b := .append) (xs := #[.tmp 107, .tmp 109]) rfl ?_); at_builtin; refine Kd.R_append k46 (w0 := w) w.heap.size rfl (.tmp 107) (.tmp 109) 23 46 (.agg #[(.int .i64 0), (.int .i64 0)]) 16 rfl Try.underlying23 info46 rfl (by decide) (by omega) u13 x13_2 (⟨(rd_T46 l1 x14_2).f0, (rd_T46 l1 x14_2).f1⟩ : S46) [.int .i64 ((rd_T46 l1 x14_2).f0), .int .i64 ((rd_T46 l1 x14_2).f1)] (fun k_ => k_ ≠ gb210 ∧ k_ ≠ gb212) (fun _ => False) rfl rfl ?aP (fun _ hk => hk.elim) ?aF ?aO ?aB ?aS ?aL ?_; (case aP => exact k46_mkM _ _ _ (⟨(rd_T46 l1 x14_2).f0, (rd_T46 l1 x14_2).f1⟩ : S46)); (case aB => exact (by repeat (first | (with_reducible first | exact HB.out | apply below_alloc | apply pw_below_drewN | apply below_drew1 | refine below_set ?_ GE210.out | refine below_set ?_ GE212.out) | exact HB.out))); (case aF => exact (fun k_ hk => ⟨Kd.freshB (g := gb210) (o := .cells #[.int .i64 t208, .int .i64 t209] 46 (0, 0)) (kk_ BK210) k_ hk, Kd.freshB (g := gb212) (o := .cells #[.int .i64 ((rd_T46 l1 x14_2).f0), .int .i64 ((rd_T46 l1 x14_2).f1)] 46 (0, 0)) (kk_ BK212) k_ hk⟩)); (case aO => exact (rr_ HO_13)); (case aS => exact (below_size (by repeat (first | (with_reducible first | exact HB.out | apply below_alloc | apply pw_below_drewN | apply below_drew1 | refine below_set ?_ GE210.out | refine below_set ?_ GE212.out) | exact HB.out)))); (case aL => have := LMc85.out; omega); intro v239 w92 ho hb hg hat; rw [← Ny238.out] at ho; have n0_ := Aside0.mk (blk_grown (g := gb210) (o := .cells #[.int .i64 t208, .int .i64 t209] 46 (0, 0)) (kk_ BK210) hg (Kd.R_away HO_13.out (fun _ hk => hk.1))); have n1_ := Aside0.mk (blk_grown (g := gb212) (o := .cells #[.int .i64 ((rd_T46 l1 x14_2).f0), .int .i64 ((rd_T46 l1 x14_2).f1)] 46 (0, 0)) (kk_ BK212) hg (Kd.R_away HO_13.out (fun _ hk => hk.2))); have n2_ := Aside0.mk (hb); have n3_ := Aside0.mk (ho); clear BK210; clear BK212; clear HB; clear HO_13; have BK210 := n0_; have BK212 := n1_; have HB := n2_; have HO240 := n3_; clear n0_ n1_ n2_ n3_; clear ho hb hg hat))
              go_roundg k2
              case measure => have := HK1.out; have := HK2.out; omega
              case rel => exact ⟨(y238), (wrap64 (x14_2 + 1)), sd_, H', ⟨by have := HK1.out; have := HK2.out; omega⟩, ⟨by (with_reducible repeat (first | apply Kd.R_alloc | apply Kd.R_drewN | apply Kd.R_drew)); exact Kd.R_mono HO240.out (fun _ hk => hk.1)⟩, ⟨by (with_reducible repeat (first | refine blk_drewN ?_ _ | refine blk_drew ?_ | refine blk_alloc ?_ _)); exact BK210.out⟩, ⟨by repeat (first | (with_reducible first | exact HB.out | apply below_alloc | apply pw_below_drewN | apply below_drew1 | refine below_set ?_ GE210.out | refine below_set ?_ GE212.out) | exact HB.out)⟩⟩
             ·rw [if_neg c85] at H
              exact absurd H (by simp)
          ·rw [if_neg c20] at H
           exact absurd H (by simp)
         ·rw [if_neg c19] at H
          have c19b0 : decide (x14_2 < (l1.length : Int)) = false := decide_eq_false c19
          clear c19
          obtain rfl := Option.some.inj H
          go_wp2
          go_ret
          exact ⟨_, ew_, by (with_reducible repeat (first | apply Kd.R_alloc | apply Kd.R_drewN | apply Kd.R_drew)); exact Kd.R_mono HO_13.out (fun _ hk => trivial), by repeat (first | (with_reducible first | exact HB.out | apply below_alloc | apply pw_below_drewN | apply below_drew1 | refine below_set ?_ GE210.out) | exact HB.out)⟩
      ·rw [if_neg c11] at H
       exact absurd H (by simp)
     ·rw [if_neg c10] at H
      exact absurd H (by simp)
    ·rw [if_neg c9] at H
     exact absurd H (by simp)
end
section
def cohousingref28_once.l0 : Nat → List (S44) → List (S46) → Int → Option ((List (S46)))
 | 0, _, _, _ => none
 | k + 1, x0, x1, x5 => if x5 ≥ 0 then ((cohousingref28_below.f k x0 x5).bind fun t241 => (if (t241.length : Int) > 0 then ((cohousingref28_empty.f k x1).bind fun t244 => (if t244 = true then (cohousingref28_once.l0 k x0 x1 (wrap64 (x5 - 1))) else ((cohousingref28_equation.f k x0 x1 x5 t241).bind fun t245 => (cohousingref28_once.l0 k x0 t245 (wrap64 (x5 - 1)))))) else (cohousingref28_once.l0 k x0 x1 (wrap64 (x5 - 1))))) else (some x1)
def cohousingref28_once.f (k : Nat) (l0 : List (S44)) (l1 : List (S46)) : Option ((List (S46))) := cohousingref28_once.l0 k l0 l1 (wrap64 ((l0.length : Int) - 1))
theorem cohousingref28_once.mono_l : ∀ k, (∀ y0 y1 y2, LeO (cohousingref28_once.l0 k y0 y1 y2) (cohousingref28_once.l0 (k + 1) y0 y1 y2))
 | 0 => fun _ _ _ r h => by simp [cohousingref28_once.l0] at h
 | k + 1 => by
  have ih0 := cohousingref28_once.mono_l k
  ·intro y0 y1 y2
   unfold cohousingref28_once.l0
   repeat' first
   | (with_reducible exact ih0 _ _ _)
   | (with_reducible exact cohousingref28_below.mono _ _ _)
   | (with_reducible exact cohousingref28_empty.mono _ _)
   | (with_reducible exact cohousingref28_equation.mono _ _ _ _ _)
   | (with_reducible exact LeO.refl _)
   | (with_reducible exact LeO.none _)
   | (with_reducible refine LeO.ite ?_ ?_)
   | (with_reducible refine LeO.bind ?_ (fun _ => ?_))
   | exact ih0 _ _ _
   | exact cohousingref28_below.mono _ _ _
   | exact cohousingref28_empty.mono _ _
   | exact cohousingref28_equation.mono _ _ _ _ _
   | exact LeO.none _
   | refine LeO.ite ?_ ?_
   | refine LeO.bind ?_ (fun _ => ?_)
theorem cohousingref28_once.mono : ∀ a0 a1 k, LeO (cohousingref28_once.f k a0 a1) (cohousingref28_once.f (k + 1) a0 a1) := by
 intro a0 a1 k
 have ih0 := cohousingref28_once.mono_l k
 unfold cohousingref28_once.f
 repeat' first
   | (with_reducible exact ih0 _ _ _)
   | (with_reducible exact cohousingref28_below.mono _ _ _)
   | (with_reducible exact cohousingref28_empty.mono _ _)
   | (with_reducible exact cohousingref28_equation.mono _ _ _ _ _)
   | (with_reducible exact LeO.refl _)
   | (with_reducible exact LeO.none _)
   | (with_reducible refine LeO.ite ?_ ?_)
   | (with_reducible refine LeO.bind ?_ (fun _ => ?_))
   | exact ih0 _ _ _
   | exact cohousingref28_below.mono _ _ _
   | exact cohousingref28_empty.mono _ _
   | exact cohousingref28_equation.mono _ _ _ _ _
   | exact LeO.none _
   | refine LeO.ite ?_ ?_
   | refine LeO.bind ?_ (fun _ => ?_)
theorem cohousingref28_once.calls (k : Nat) (A0 : Option Addr) (c0 : Nat) (l0 : List (S44)) (P1_ : Nat → Prop) (A1 : Option Addr) (c1 : Nat) (l1 : List (S46)) (r : List (S46)) (w : World) (hr0 : Kd.C k44 w A0 l0.length l0) (hc0 : l0.length ≤ c0) (hs1 : Kd.V k46 46 w w.heap.size (fun k_ => P1_ k_) (.slice A1 l1.length c1) l1) (h : cohousingref28_once.f k l0 l1 = some r) :
  Calls Try.prog 73 #[.slice A0 l0.length c0, .slice A1 l1.length c1] w fun e w' => ∃ v0_ : Value, e = .returned (v0_) ∧ Kd.V k46 46 w' w.heap.size (fun k_ => (P1_ k_ ∨ w.heap.size ≤ k_)) v0_ r ∧ Below w.heap.size w w' := by
 have HR0 := Aside0.mk hr0
 have HC0 := Aside0.mk hc0
 clear hr0 hc0
 have HO1 := Aside0.mk (show Kd.V k46 46 w w.heap.size (fun k_ => (P1_ k_ ∨ w.heap.size ≤ k_)) (.slice A1 l1.length c1) l1 from Kd.V_mono hs1 (fun k_ hk => .inl hk))
 have HB := Aside0.mk (Below.refl w.heap.size w)
 have H : (cohousingref28_once.l0 k l0 l1 (wrap64 ((l0.length : Int) - 1))) = some r := h
 clear h
 have H' := Aside0.mk H
 clear H
 go_enter Try.func73, Try.ntmps73
 go_wp2
 go_loopg [1, 5] k (fun kq v1 v5 w' => ∃ (x1_1 : List (S46)) (x5_1 : Int), v5 = .int .i64 x5_1 ∧ Aside0 (cohousingref28_once.l0 kq l0 x1_1 x5_1 = some r) ∧ Aside0 (kq ≤ k) ∧ Aside0 (Kd.V k46 46 w' w.heap.size (fun k_ => (P1_ k_ ∨ w.heap.size ≤ k_)) v1 x1_1) ∧ Aside0 (Below w.heap.size w w'))
 case atStart => exact ⟨(l1), (wrap64 ((l0.length : Int) - 1)), sd_, H', ⟨Nat.le_refl _⟩, ⟨by (with_reducible repeat (first | apply Kd.V_alloc | apply Kd.V_drewN | apply Kd.V_drew)); exact HO1.out⟩, ⟨by repeat (first | (with_reducible first | exact HB.out | apply below_alloc | apply pw_below_drewN | apply below_drew1) | exact HB.out)⟩⟩
 case round =>
  clear H'
  try clear c1
  try clear p2
  obtain ⟨x1_1, x5_1, rfl, HA, HK1, HO_1, HB⟩ := hrel
  cases gk with
  | zero => exact absurd HA.out (by simp [cohousingref28_once.l0])
  | succ k1 =>
   have H := HA.out
   clear HA
   simp only [cohousingref28_once.l0] at H
   by_cases c3 : x5_1 ≥ 0
   ·rw [if_pos c3] at H
    have c3b0 : decide (0 ≤ x5_1) = true := decide_eq_true c3
    clear c3
    replace H := Option.bind_eq_some_iff.mp H
    obtain ⟨t241, A40, H⟩ := H
    replace H : (if (t241.length : Int) > 0 then ((cohousingref28_empty.f k1 x1_1).bind fun t244 => (if t244 = true then (cohousingref28_once.l0 k1 l0 x1_1 (wrap64 (x5_1 - 1))) else ((cohousingref28_equation.f k1 l0 x1_1 x5_1 t241).bind fun t245 => (cohousingref28_once.l0 k1 l0 t245 (wrap64 (x5_1 - 1)))))) else (cohousingref28_once.l0 k1 l0 x1_1 (wrap64 (x5_1 - 1)))) = some r := H
    have A4 := Aside0.mk A40
    clear A40
    by_cases c5 : (t241.length : Int) > 0
    ·rw [if_pos c5] at H
     have c5b0 : decide (0 < (t241.length : Int)) = true := decide_eq_true c5
     have c5b1 : decide (0 < t241.length) = true := decide_eq_true (by omega)
     clear c5
     replace H := Option.bind_eq_some_iff.mp H
     obtain ⟨t244, A60, H⟩ := H
     replace H : (if t244 = true then (cohousingref28_once.l0 k1 l0 x1_1 (wrap64 (x5_1 - 1))) else ((cohousingref28_equation.f k1 l0 x1_1 x5_1 t241).bind fun t245 => (cohousingref28_once.l0 k1 l0 t245 (wrap64 (x5_1 - 1))))) = some r := H
     have A6 := Aside0.mk A60
     clear A60
     by_cases c7 : t244 = true
     ·subst c7
      have H1 : (cohousingref28_once.l0 k1 l0 x1_1 (wrap64 (x5_1 - 1))) = some r := by rw [if_pos rfl] at H; exact H
      clear H
      have H := H1
      clear H1
      have H' := Aside0.mk H
      clear H
      go_wp2_with (first | ((with_reducible refine gate_callee (f := 41) rfl ?_); refine gl_ (some 16) Try.func41 #[.slice A0 l0.length c0, .int .i64 x5_1] ?_; (with_reducible refine (cohousingref28_below.calls k1 _ _ l0 x5_1 t241 _ ?side1 ?side2 A4.out).mono ?_); (case side1 => exact cc_ ((Kd.C_below HR0.out HB.out))); (case side2 => exact HC0.out); rintro e w8 ⟨v242, rfl, ho0, hb⟩; refine ⟨_, rfl, ?_⟩; have n0_ := Aside0.mk (Kd.V_elder' (by (with_reducible repeat (first | apply Kd.V_alloc | apply Kd.V_drewN | apply Kd.V_drew)); exact HO_1.out) (Kd.R_base ho0) hb); have n1_ := Aside0.mk (Kd.R_lower (Kd.R_newM (M := fun k_ => (w.heap.size ≤ k_)) ho0 (below_size (bb_ HB)) (fun k_ h_ => h_)) (below_size (bb_ HB))); have n2_ := Aside0.mk (below_step (bb_ HB) hb); clear HO_1; clear HB; have HO_1 := n0_; have HO243 := n1_; have HB := n2_; clear n0_ n1_ n2_; (try clear hb); (try clear hb2); (try clear hk); (try clear hi); (try clear ho0); obtain ⟨Ao9, co9, eo9⟩ := Kd.R_slice HO243.out; subst eo9; obtain ⟨Ao10, co10, eo10⟩ := Kd.V_slice HO_1.out; subst eo10) | (go_at_call 74; (with_reducible refine (cohousingref28_empty.calls k1 _ _ x1_1 true _ ?side1 ?side2 A6.out).mono ?_); (case side1 => exact cc_ ((Kd.V_reads' HO_1.out).2.2)); (case side2 => exact (Kd.V_reads' HO_1.out).2.1); rintro e w' ⟨rfl, ⟨nd, rfl⟩⟩))
      go_roundg k1
      case measure => have := HK1.out; omega
      case rel => exact ⟨(x1_1), (wrap64 (x5_1 - 1)), sd_, H', ⟨by have := HK1.out; omega⟩, ⟨by (with_reducible repeat (first | apply Kd.V_alloc | apply Kd.V_drewN | apply Kd.V_drew)); exact Kd.V_mono HO_1.out (fun _ hk => hk.1)⟩, ⟨by repeat (first | (with_reducible first | exact HB.out | apply below_alloc | apply pw_below_drewN | apply below_drew1) | exact HB.out)⟩⟩
     ·replace c7 := Bool.eq_false_iff.mpr c7
      subst c7
      have H1 : ((cohousingref28_equation.f k1 l0 x1_1 x5_1 t241).bind fun t245 => (cohousingref28_once.l0 k1 l0 t245 (wrap64 (x5_1 - 1)))) = some r := by rw [if_neg (show ¬ (false = true) by decide)] at H; exact H
      clear H
      have H := H1
      clear H1
      replace H := Option.bind_eq_some_iff.mp H
      obtain ⟨t245, A110, H⟩ := H
      replace H : (cohousingref28_once.l0 k1 l0 t245 (wrap64 (x5_1 - 1))) = some r := H
      have A11 := Aside0.mk A110
      clear A110
      have H' := Aside0.mk H
      clear H
      go_wp2_with (first | ((with_reducible refine gate_callee (f := 41) rfl ?_); refine gl_ (some 16) Try.func41 #[.slice A0 l0.length c0, .int .i64 x5_1] ?_; (with_reducible refine (cohousingref28_below.calls k1 _ _ l0 x5_1 t241 _ ?side1 ?side2 A4.out).mono ?_); (case side1 => exact cc_ ((Kd.C_below HR0.out HB.out))); (case side2 => exact HC0.out); rintro e w12 ⟨v242, rfl, ho0, hb⟩; refine ⟨_, rfl, ?_⟩; have n0_ := Aside0.mk (Kd.V_elder' (by (with_reducible repeat (first | apply Kd.V_alloc | apply Kd.V_drewN | apply Kd.V_drew)); exact HO_1.out) (Kd.R_base ho0) hb); have n1_ := Aside0.mk (Kd.R_lower (Kd.R_newM (M := fun k_ => (w.heap.size ≤ k_)) ho0 (below_size (bb_ HB)) (fun k_ h_ => h_)) (below_size (bb_ HB))); have n2_ := Aside0.mk (below_step (bb_ HB) hb); clear HO_1; clear HB; have HO_1 := n0_; have HO243 := n1_; have HB := n2_; clear n0_ n1_ n2_; (try clear hb); (try clear hb2); (try clear hk); (try clear hi); (try clear ho0); obtain ⟨Ao13, co13, eo13⟩ := Kd.R_slice HO243.out; subst eo13; obtain ⟨Ao14, co14, eo14⟩ := Kd.V_slice HO_1.out; subst eo14) | (go_at_call 74; (with_reducible refine (cohousingref28_empty.calls k1 _ _ x1_1 false _ ?side1 ?side2 A6.out).mono ?_); (case side1 => exact cc_ ((Kd.V_reads' HO_1.out).2.2)); (case side2 => exact (Kd.V_reads' HO_1.out).2.1); rintro e w' ⟨rfl, ⟨nd, rfl⟩⟩) | ((with_reducible refine gate_callee (f := 76) rfl ?_); refine gl_ (some 29) Try.func76 #[.slice A0 l0.length c0, .slice Ao14 x1_1.length co14, .int .i64 x5_1, .slice Ao13 t241.length co13] ?_; (with_reducible refine (cohousingref28_equation.calls k1 _ _ l0 _ _ x1_1 x5_1 _ _ t241 t245 _ ?side1 ?side2 ?side3 ?side4 ?side5 ?side6 A11.out).mono ?_); (case side1 => exact cc_ ((Kd.C_below HR0.out (bb_ HB)))); (case side2 => exact HC0.out); (case side3 => exact cc_ ((Kd.V_reads' HO_1.out).2.2)); (case side4 => exact (Kd.V_reads' HO_1.out).2.1); (case side5 => exact cc_ ((Kd.R_reads' HO243.out).2.2)); (case side6 => exact (Kd.R_reads' HO243.out).2.1); rintro e w15 ⟨v246, rfl, ho0, hb⟩; refine ⟨_, rfl, ?_⟩; have n0_ := Aside0.mk (Kd.V_elder' (by (with_reducible repeat (first | apply Kd.V_alloc | apply Kd.V_drewN | apply Kd.V_drew)); exact HO_1.out) (Kd.R_base ho0) hb); have n1_ := Aside0.mk (Kd.R_below (rr_ HO243) hb); have n2_ := Aside0.mk (Kd.R_lower (Kd.R_newM (M := fun k_ => (w.heap.size ≤ k_)) ho0 (below_size (bb_ HB)) (fun k_ h_ => h_)) (below_size (bb_ HB))); have n3_ := Aside0.mk (below_step (bb_ HB) hb); clear HO_1; clear HO243; clear HB; have HO_1 := n0_; have HO243 := n1_; have HO247 := n2_; have HB := n3_; clear n0_ n1_ n2_ n3_; (try clear hb); (try clear hb2); (try clear hk); (try clear hi); (try clear ho0)))
      go_roundg k1
      case measure => have := HK1.out; omega
      case rel => exact ⟨(t245), (wrap64 (x5_1 - 1)), sd_, H', ⟨by have := HK1.out; omega⟩, ⟨Kd.V_mono (Kd.R_V (by (with_reducible repeat (first | apply Kd.R_alloc | apply Kd.R_drewN | apply Kd.R_drew)); exact Kd.R_mono HO247.out (fun _ hk => hk.1))) (fun k_ hk => by first | exact ⟨(.inr (hk.1)), hk.2⟩ | exact (.inr (hk)))⟩, ⟨by repeat (first | (with_reducible first | exact HB.out | apply below_alloc | apply pw_below_drewN | apply below_drew1) | exact HB.out)⟩⟩
    ·rw [if_neg c5] at H
     have c5b0 : decide (0 < (t241.length : Int)) = false := decide_eq_false c5
     have c5b1 : decide (0 < t241.length) = false := decide_eq_false (by omega)
     clear c5
     have H' := Aside0.mk H
     clear H
     go_wp2_with (first | ((with_reducible refine gate_callee (f := 41) rfl ?_); refine gl_ (some 16) Try.func41 #[.slice A0 l0.length c0, .int .i64 x5_1] ?_; (with_reducible refine (cohousingref28_below.calls k1 _ _ l0 x5_1 t241 _ ?side1 ?side2 A4.out).mono ?_); (case side1 => exact cc_ ((Kd.C_below HR0.out HB.out))); (case side2 => exact HC0.out); rintro e w16 ⟨v242, rfl, ho0, hb⟩; refine ⟨_, rfl, ?_⟩; have n0_ := Aside0.mk (Kd.V_elder' (by (with_reducible repeat (first | apply Kd.V_alloc | apply Kd.V_drewN | apply Kd.V_drew)); exact HO_1.out) (Kd.R_base ho0) hb); have n1_ := Aside0.mk (Kd.R_lower (Kd.R_newM (M := fun k_ => (w.heap.size ≤ k_)) ho0 (below_size (bb_ HB)) (fun k_ h_ => h_)) (below_size (bb_ HB))); have n2_ := Aside0.mk (below_step (bb_ HB) hb); clear HO_1; clear HB; have HO_1 := n0_; have HO243 := n1_; have HB := n2_; clear n0_ n1_ n2_; (try clear hb); (try clear hb2); (try clear hk); (try clear hi); (try clear ho0); obtain ⟨Ao17, co17, eo17⟩ := Kd.R_slice HO243.out; subst eo17))
     go_roundg k1
     case measure => have := HK1.out; omega
     case rel => exact ⟨(x1_1), (wrap64 (x5_1 - 1)), sd_, H', ⟨by have := HK1.out; omega⟩, ⟨by (with_reducible repeat (first | apply Kd.V_alloc | apply Kd.V_drewN | apply Kd.V_drew)); exact Kd.V_mono HO_1.out (fun _ hk => hk.1)⟩, ⟨by repeat (first | (with_reducible first | exact HB.out | apply below_alloc | apply pw_below_drewN | apply below_drew1) | exact HB.out)⟩⟩
   ·rw [if_neg c3] at H
    have c3b0 : decide (0 ≤ x5_1) = false := decide_eq_false c3
    clear c3
    obtain rfl := Option.some.inj H
    go_wp2
    go_ret
    exact ⟨_, ew_, by (with_reducible repeat (first | apply Kd.V_alloc | apply Kd.V_drewN | apply Kd.V_drew)); exact HO_1.out, by repeat (first | (with_reducible first | exact HB.out | apply below_alloc | apply pw_below_drewN | apply below_drew1) | exact HB.out)⟩
end
section
theorem eqA46 (d : Nat) (w : World) (x0 y0 : Int) (x1 y1 : Int) :
  (Op.equalIn (d + 2) 46 (.agg #[.int .i64 x0, .int .i64 x1]) (.agg #[.int .i64 y0, .int .i64 y1])).run Try.prog w = .ok (x0 == y0 && (x1 == y1)) w := by
 refine eqA_of Try.underlying46 (by kernel_rfl) ?_
 refine eqf_cons (by rfl) (by go_simp; rfl) (by go_simp; rfl) (by go_simp) ?_
 exact eqf_last (by rfl) (by go_simp; rfl) (by go_simp; rfl) (by go_simp)
end
section
attribute [local go_sem high] eqA46
def cohousingref28_Same.l0 : Nat → List (S46) → List (S46) → Int → Option (Bool)
 | 0, _, _, _ => none
 | k + 1, x0, x1, x5 => if x5 < (x0.length : Int) then (if 0 ≤ x5 then (if x5 < (x1.length : Int) then (if (!(((rd_T46 x0 x5).f0) == ((rd_T46 x1 x5).f0)) || (!(((rd_T46 x0 x5).f1) == ((rd_T46 x1 x5).f1)))) = true then (some false) else (cohousingref28_Same.l0 k x0 x1 (wrap64 (x5 + 1)))) else (none)) else (none)) else (some true)
def cohousingref28_Same.f (k : Nat) (l0 : List (S46)) (l1 : List (S46)) : Option (Bool) := if (l0.length : Int) = (l1.length : Int) then (cohousingref28_Same.l0 k l0 l1 0) else (some false)
theorem cohousingref28_Same.mono_l : ∀ k, (∀ y0 y1 y2, LeO (cohousingref28_Same.l0 k y0 y1 y2) (cohousingref28_Same.l0 (k + 1) y0 y1 y2))
 | 0 => fun _ _ _ r h => by simp [cohousingref28_Same.l0] at h
 | k + 1 => by
  have ih0 := cohousingref28_Same.mono_l k
  ·intro y0 y1 y2
   unfold cohousingref28_Same.l0
   repeat' first
   | (with_reducible exact ih0 _ _ _)
   | (with_reducible exact LeO.refl _)
   | (with_reducible exact LeO.none _)
   | (with_reducible refine LeO.ite ?_ ?_)
   | (with_reducible refine LeO.bind ?_ (fun _ => ?_))
   | exact ih0 _ _ _
   | exact LeO.none _
   | refine LeO.ite ?_ ?_
   | refine LeO.bind ?_ (fun _ => ?_)
theorem cohousingref28_Same.mono : ∀ a0 a1 k, LeO (cohousingref28_Same.f k a0 a1) (cohousingref28_Same.f (k + 1) a0 a1) := by
 intro a0 a1 k
 have ih0 := cohousingref28_Same.mono_l k
 unfold cohousingref28_Same.f
 repeat' first
   | (with_reducible exact ih0 _ _ _)
   | (with_reducible exact LeO.refl _)
   | (with_reducible exact LeO.none _)
   | (with_reducible refine LeO.ite ?_ ?_)
   | (with_reducible refine LeO.bind ?_ (fun _ => ?_))
   | exact ih0 _ _ _
   | exact LeO.none _
   | refine LeO.ite ?_ ?_
   | refine LeO.bind ?_ (fun _ => ?_)
theorem cohousingref28_Same.calls (k : Nat) (A0 : Option Addr) (c0 : Nat) (l0 : List (S46)) (A1 : Option Addr) (c1 : Nat) (l1 : List (S46)) (r : Bool) (w : World) (hr0 : Kd.C k46 w A0 l0.length l0) (hc0 : l0.length ≤ c0) (hr1 : Kd.C k46 w A1 l1.length l1) (hc1 : l1.length ≤ c1) (h : cohousingref28_Same.f k l0 l1 = some r) :
  Calls Try.prog 75 #[.slice A0 l0.length c0, .slice A1 l1.length c1] w fun e w' => e = .returned (.bool r) ∧ Drawn0 w w' := by
 have hu46 := Try.underlying46
 have HR0 := Aside0.mk hr0
 have HC0 := Aside0.mk hc0
 clear hr0 hc0
 have HR1 := Aside0.mk hr1
 have HC1 := Aside0.mk hc1
 clear hr1 hc1
 have H : (if (l0.length : Int) = (l1.length : Int) then (cohousingref28_Same.l0 k l0 l1 0) else (some false)) = some r := h
 clear h
 by_cases c3 : (l0.length : Int) = (l1.length : Int)
 ·rw [if_pos c3] at H
  have c3b0 : ((l0.length : Int) == (l1.length : Int)) = true := beq_iff_eq.mpr c3
  have c3b1 : ((l0.length : Int) != (l1.length : Int)) = false := bne_eq_false_iff_eq.mpr c3
  have c3b2 : (l0.length == l1.length) = true := by first | simpa using c3 | (simp at c3 ⊢; omega)
  clear c3
  have H' := Aside0.mk H
  clear H
  go_enter Try.func75, Try.ntmps75
  go_wp2
  repeat (go_quiet (fail); try go_wp2)
  go_loopg [5] k (fun kq v5 w' => ∃ (x5_1 : Int), v5 = .int .i64 x5_1 ∧ Aside0 (cohousingref28_Same.l0 kq l0 l1 x5_1 = some r) ∧ Aside0 (kq ≤ k) ∧ Drawn0 w w')
  case atStart => exact ⟨(0), sd_, H', ⟨Nat.le_refl _⟩, by repeat (first | exact Drawn0.refl _ | apply Drawn0.step)⟩
  case round =>
   clear H'
   try clear c1
   try clear p2
   try clear c3
   try clear c3b0
   try clear c3b1
   try clear c3b2
   obtain ⟨x5_1, rfl, HA, HK1, ⟨m1, rfl⟩⟩ := hrel
   cases gk with
   | zero => exact absurd HA.out (by simp [cohousingref28_Same.l0])
   | succ k1 =>
    have H := HA.out
    clear HA
    simp only [cohousingref28_Same.l0] at H
    by_cases c4 : x5_1 < (l0.length : Int)
    ·rw [if_pos c4] at H
     have c4b0 : decide (x5_1 < (l0.length : Int)) = true := decide_eq_true c4
     clear c4
     by_cases c5 : 0 ≤ x5_1
     ·rw [if_pos c5] at H
      have c5b0 : decide (0 ≤ x5_1) = true := decide_eq_true c5
      clear c5
      by_cases c6 : x5_1 < (l1.length : Int)
      ·rw [if_pos c6] at H
       have c6b0 : decide (x5_1 < (l1.length : Int)) = true := decide_eq_true c6
       clear c6
       by_cases c7 : (!(((rd_T46 l0 x5_1).f0) == ((rd_T46 l1 x5_1).f0)) || (!(((rd_T46 l0 x5_1).f1) == ((rd_T46 l1 x5_1).f1)))) = true
       ·rw [if_pos c7] at H
        have c7b0 : (!(((rd_T46 l0 x5_1).f0) == ((rd_T46 l1 x5_1).f0)) || (!(((rd_T46 l0 x5_1).f1) == ((rd_T46 l1 x5_1).f1)))) = true := c7
        clear c7
        obtain rfl := Option.some.inj H
        have p248 : 0 ≤ (x5_1 : Int) := od_
        have q248 : x5_1 < (l0.length : Int) := od_
        obtain ⟨ad248, e248, hx248_0, hx248_1⟩ := at_T46 HR0.out x5_1 p248 q248
        cases e248
        replace p248 := eq_true p248
        replace q248 := eq_true q248
        have p249 : 0 ≤ (x5_1 : Int) := od_
        have q249 : x5_1 < (l1.length : Int) := od_
        obtain ⟨ad249, e249, hx249_0, hx249_1⟩ := at_T46 HR1.out x5_1 p249 q249
        cases e249
        replace p249 := eq_true p249
        replace q249 := eq_true q249
        go_wp2
        repeat (go_quiet (fail); try go_wp2)
        go_ret
        exact ⟨by first | rfl | (simp; done) | (simp [*]; done), by repeat (first | exact Drawn0.refl _ | apply Drawn0.step)⟩
       ·rw [if_neg c7] at H
        have c7b0 : (!(((rd_T46 l0 x5_1).f0) == ((rd_T46 l1 x5_1).f0)) || (!(((rd_T46 l0 x5_1).f1) == ((rd_T46 l1 x5_1).f1)))) = false := by simpa using c7
        clear c7
        have H' := Aside0.mk H
        clear H
        have p248 : 0 ≤ (x5_1 : Int) := od_
        have q248 : x5_1 < (l0.length : Int) := od_
        obtain ⟨ad248, e248, hx248_0, hx248_1⟩ := at_T46 HR0.out x5_1 p248 q248
        cases e248
        replace p248 := eq_true p248
        replace q248 := eq_true q248
        have p249 : 0 ≤ (x5_1 : Int) := od_
        have q249 : x5_1 < (l1.length : Int) := od_
        obtain ⟨ad249, e249, hx249_0, hx249_1⟩ := at_T46 HR1.out x5_1 p249 q249
        cases e249
        replace p249 := eq_true p249
        replace q249 := eq_true q249
        go_wp2
        repeat (go_quiet (fail); try go_wp2)
        go_roundg k1
        case measure => have := HK1.out; omega
        case rel => exact ⟨(wrap64 (x5_1 + 1)), sd_, H', ⟨by have := HK1.out; omega⟩, by repeat (first | exact Drawn0.refl _ | apply Drawn0.step)⟩
      ·rw [if_neg c6] at H
       exact absurd H (by simp)
     ·rw [if_neg c5] at H
      exact absurd H (by simp)
    ·rw [if_neg c4] at H
     have c4b0 : decide (x5_1 < (l0.length : Int)) = false := decide_eq_false c4
     clear c4
     obtain rfl := Option.some.inj H
     go_wp2
     repeat (go_quiet (fail); try go_wp2)
     go_ret
     exact ⟨by first | rfl | (simp; done) | (simp [*]; done), by repeat (first | exact Drawn0.refl _ | apply Drawn0.step)⟩
 ·rw [if_neg c3] at H
  have c3b0 : ((l0.length : Int) == (l1.length : Int)) = false := beq_eq_false_iff_ne.mpr c3
  have c3b1 : ((l0.length : Int) != (l1.length : Int)) = true := bne_iff_ne.mpr c3
  have c3b2 : (l0.length == l1.length) = false := by first | simpa using c3 | (simp at c3 ⊢; omega)
  obtain rfl := Option.some.inj H
  go_enter Try.func75, Try.ntmps75
  go_wp2
  repeat (go_quiet (fail); try go_wp2)
  go_ret
  exact ⟨by first | rfl | (simp; done) | (simp [*]; done), by repeat (first | exact Drawn0.refl _ | apply Drawn0.step)⟩
end
section
def cohousingref28_bounds.l0 : Nat → List (S44) → List (S46) → Option ((List (S46)) × Bool)
 | 0, _, _ => none
 | k + 1, x0, x1 => (cohousingref28_once.f k x0 x1).bind fun t250 => ((cohousingref28_empty.f k t250).bind fun t253 => (if t253 = true then (some (([] : List (S46)), false)) else ((cohousingref28_Same.f k t250 x1).bind fun t254 => (if t254 = true then (some (t250, true)) else (cohousingref28_bounds.l0 k x0 t250)))))
def cohousingref28_bounds.f (k : Nat) (l0 : List (S44)) (l1 : List (S46)) : Option ((List (S46)) × Bool) := cohousingref28_bounds.l0 k l0 l1
theorem cohousingref28_bounds.mono_l : ∀ k, (∀ y0 y1, LeO (cohousingref28_bounds.l0 k y0 y1) (cohousingref28_bounds.l0 (k + 1) y0 y1))
 | 0 => fun _ _ r h => by simp [cohousingref28_bounds.l0] at h
 | k + 1 => by
  have ih0 := cohousingref28_bounds.mono_l k
  ·intro y0 y1
   unfold cohousingref28_bounds.l0
   repeat' first
   | (with_reducible exact ih0 _ _)
   | (with_reducible exact cohousingref28_Same.mono _ _ _)
   | (with_reducible exact cohousingref28_empty.mono _ _)
   | (with_reducible exact cohousingref28_once.mono _ _ _)
   | (with_reducible exact LeO.refl _)
   | (with_reducible exact LeO.none _)
   | (with_reducible refine LeO.ite ?_ ?_)
   | (with_reducible refine LeO.bind ?_ (fun _ => ?_))
   | exact ih0 _ _
   | exact cohousingref28_Same.mono _ _ _
   | exact cohousingref28_empty.mono _ _
   | exact cohousingref28_once.mono _ _ _
   | exact LeO.none _
   | refine LeO.ite ?_ ?_
   | refine LeO.bind ?_ (fun _ => ?_)
theorem cohousingref28_bounds.mono : ∀ a0 a1 k, LeO (cohousingref28_bounds.f k a0 a1) (cohousingref28_bounds.f (k + 1) a0 a1) := by
 intro a0 a1 k
 have ih0 := cohousingref28_bounds.mono_l k
 unfold cohousingref28_bounds.f
 repeat' first
   | (with_reducible exact ih0 _ _)
   | (with_reducible exact cohousingref28_Same.mono _ _ _)
   | (with_reducible exact cohousingref28_empty.mono _ _)
   | (with_reducible exact cohousingref28_once.mono _ _ _)
   | (with_reducible exact LeO.refl _)
   | (with_reducible exact LeO.none _)
   | (with_reducible refine LeO.ite ?_ ?_)
   | (with_reducible refine LeO.bind ?_ (fun _ => ?_))
   | exact ih0 _ _
   | exact cohousingref28_Same.mono _ _ _
   | exact cohousingref28_empty.mono _ _
   | exact cohousingref28_once.mono _ _ _
   | exact LeO.none _
   | refine LeO.ite ?_ ?_
   | refine LeO.bind ?_ (fun _ => ?_)
theorem cohousingref28_bounds.calls (k : Nat) (A0 : Option Addr) (c0 : Nat) (l0 : List (S44)) (P1_ : Nat → Prop) (A1 : Option Addr) (c1 : Nat) (l1 : List (S46)) (r1 : List (S46)) (r2 : Bool) (w : World) (hr0 : Kd.C k44 w A0 l0.length l0) (hc0 : l0.length ≤ c0) (hs1 : Kd.V k46 46 w w.heap.size (fun k_ => P1_ k_) (.slice A1 l1.length c1) l1) (h : cohousingref28_bounds.f k l0 l1 = some (r1, r2)) :
  Calls Try.prog 72 #[.slice A0 l0.length c0, .slice A1 l1.length c1] w fun e w' => ∃ v0_ : Value, e = .returned (.tuple #[v0_, .bool r2]) ∧ Kd.V k46 46 w' w.heap.size (fun k_ => (P1_ k_ ∨ w.heap.size ≤ k_)) v0_ r1 ∧ Below w.heap.size w w' := by
 have HR0 := Aside0.mk hr0
 have HC0 := Aside0.mk hc0
 clear hr0 hc0
 have HO1 := Aside0.mk (show Kd.V k46 46 w w.heap.size (fun k_ => (P1_ k_ ∨ w.heap.size ≤ k_)) (.slice A1 l1.length c1) l1 from Kd.V_mono hs1 (fun k_ hk => .inl hk))
 have HB := Aside0.mk (Below.refl w.heap.size w)
 have H : (cohousingref28_bounds.l0 k l0 l1) = some (r1, r2) := h
 clear h
 have H' := Aside0.mk H
 clear H
 go_enter Try.func72, Try.ntmps72
 go_wp2
 go_loopg [1] k (fun kq v1 w' => ∃ (x1_1 : List (S46)), Aside0 (cohousingref28_bounds.l0 kq l0 x1_1 = some (r1, r2)) ∧ Aside0 (kq ≤ k) ∧ Aside0 (Kd.V k46 46 w' w.heap.size (fun k_ => (P1_ k_ ∨ w.heap.size ≤ k_)) v1 x1_1) ∧ Aside0 (Below w.heap.size w w'))
 case atStart => exact ⟨(l1), H', ⟨Nat.le_refl _⟩, ⟨by (with_reducible repeat (first | apply Kd.V_alloc | apply Kd.V_drewN | apply Kd.V_drew)); exact HO1.out⟩, ⟨by repeat (first | (with_reducible first | exact HB.out | apply below_alloc | apply pw_below_drewN | apply below_drew1) | exact HB.out)⟩⟩
 case round =>
  clear H'
  try clear c1
  try clear p2
  obtain ⟨x1_1, HA, HK1, HO_1, HB⟩ := hrel
  cases gk with
  | zero => exact absurd HA.out (by simp [cohousingref28_bounds.l0])
  | succ k1 =>
   have H := HA.out
   clear HA
   simp only [cohousingref28_bounds.l0] at H
   replace H := Option.bind_eq_some_iff.mp H
   obtain ⟨t250, A30, H⟩ := H
   replace H : ((cohousingref28_empty.f k1 t250).bind fun t253 => (if t253 = true then (some (([] : List (S46)), false)) else ((cohousingref28_Same.f k1 t250 x1_1).bind fun t254 => (if t254 = true then (some (t250, true)) else (cohousingref28_bounds.l0 k1 l0 t250))))) = some (r1, r2) := H
   have A3 := Aside0.mk A30
   clear A30
   replace H := Option.bind_eq_some_iff.mp H
   obtain ⟨t253, A40, H⟩ := H
   replace H : (if t253 = true then (some (([] : List (S46)), false)) else ((cohousingref28_Same.f k1 t250 x1_1).bind fun t254 => (if t254 = true then (some (t250, true)) else (cohousingref28_bounds.l0 k1 l0 t250)))) = some (r1, r2) := H
   have A4 := Aside0.mk A40
   clear A40
   by_cases c5 : t253 = true
   ·subst c5
    have H1 : (some (([] : List (S46)), false)) = some (r1, r2) := by rw [if_pos rfl] at H; exact H
    clear H
    have H := H1
    clear H1
    simp only [Option.some.injEq, Prod.mk.injEq] at H
    obtain ⟨rfl, rfl⟩ := H
    obtain ⟨Ao6, co6, eo6⟩ := Kd.V_slice HO_1.out
    subst eo6
    go_wp2_with (first | ((with_reducible refine gate_callee (f := 73) rfl ?_); refine gl_ (some 10) Try.func73 #[.slice A0 l0.length c0, .slice Ao6 x1_1.length co6] ?_; (with_reducible refine (cohousingref28_once.calls k1 _ _ l0 (fun k_ => (P1_ k_ ∨ w.heap.size ≤ k_)) _ _ x1_1 t250 _ ?side1 ?side2 ?side3 A3.out).mono ?_); (case side1 => exact cc_ ((Kd.C_below HR0.out HB.out))); (case side2 => exact HC0.out); (case side3 => exact HO_1.out); rintro e w7 ⟨v251, rfl, ho0, hb⟩; refine ⟨_, rfl, ?_⟩; have n0_ := Aside0.mk (Kd.V_below (by (with_reducible repeat (first | apply Kd.V_alloc | apply Kd.V_drewN | apply Kd.V_drew)); exact HO_1.out) hb); have n1_ := Aside0.mk (Kd.V_lower (Kd.V_mono (ok' := fun k_ => (P1_ k_ ∨ w.heap.size ≤ k_)) ho0 (fun k_ hk_ => Or.elim hk_ (fun hs_ => hs_) (fun hn_ => (.inr (Nat.le_trans (below_size (bb_ HB)) hn_))))) (below_size (bb_ HB))); have n2_ := Aside0.mk (below_step (bb_ HB) hb); clear HO_1; clear HB; have HO_1 := n0_; have HO252 := n1_; have HB := n2_; clear n0_ n1_ n2_; (try clear hb); (try clear hb2); (try clear hk); (try clear hi); (try clear ho0); obtain ⟨Ao8, co8, eo8⟩ := Kd.V_slice HO252.out; subst eo8) | ((with_reducible refine gate_callee (f := 74) rfl ?_); refine gl_ (some 12) Try.func74 #[.slice Ao8 t250.length co8] ?_; (with_reducible refine (cohousingref28_empty.calls k1 _ _ t250 true _ ?side1 ?side2 A4.out).mono ?_); (case side1 => exact cc_ ((Kd.V_reads' HO252.out).2.2)); (case side2 => exact (Kd.V_reads' HO252.out).2.1); rintro e w' ⟨rfl, ⟨nd, rfl⟩⟩; refine ⟨_, rfl, ?_⟩))
    go_ret2
    exact ⟨_, ew_, Kd.V_mono (Kd.R_V (by first | exact (Kd.R_nil _ _ _ w.heap.size (fun k_ => w.heap.size ≤ k_)) | exact Kd.R_nil _ _ _ _ _ | exact Kd.N_nil _ _ _ _ _ | exact Kd.V_nil _ _ _ _ _ | exact Kd.Q_nil _ _ _ _ _ | exact Kd.S_nil _ _ _ _ _)) (fun k_ hk => by first | exact ⟨(.inr (hk.1)), hk.2⟩ | exact (.inr (hk))), by repeat (first | (with_reducible first | exact HB.out | apply below_alloc | apply pw_below_drewN | apply below_drew1) | exact HB.out)⟩
   ·replace c5 := Bool.eq_false_iff.mpr c5
    subst c5
    have H1 : ((cohousingref28_Same.f k1 t250 x1_1).bind fun t254 => (if t254 = true then (some (t250, true)) else (cohousingref28_bounds.l0 k1 l0 t250))) = some (r1, r2) := by rw [if_neg (show ¬ (false = true) by decide)] at H; exact H
    clear H
    have H := H1
    clear H1
    replace H := Option.bind_eq_some_iff.mp H
    obtain ⟨t254, A90, H⟩ := H
    replace H : (if t254 = true then (some (t250, true)) else (cohousingref28_bounds.l0 k1 l0 t250)) = some (r1, r2) := H
    have A9 := Aside0.mk A90
    clear A90
    by_cases c10 : t254 = true
    ·subst c10
     have H1 : (some (t250, true)) = some (r1, r2) := by rw [if_pos rfl] at H; exact H
     clear H
     have H := H1
     clear H1
     simp only [Option.some.injEq, Prod.mk.injEq] at H
     obtain ⟨rfl, rfl⟩ := H
     obtain ⟨Ao11, co11, eo11⟩ := Kd.V_slice HO_1.out
     subst eo11
     go_wp2_with (first | ((with_reducible refine gate_callee (f := 73) rfl ?_); refine gl_ (some 10) Try.func73 #[.slice A0 l0.length c0, .slice Ao11 x1_1.length co11] ?_; (with_reducible refine (cohousingref28_once.calls k1 _ _ l0 (fun k_ => (P1_ k_ ∨ w.heap.size ≤ k_)) _ _ x1_1 t250 _ ?side1 ?side2 ?side3 A3.out).mono ?_); (case side1 => exact cc_ ((Kd.C_below HR0.out HB.out))); (case side2 => exact HC0.out); (case side3 => exact HO_1.out); rintro e w12 ⟨v251, rfl, ho0, hb⟩; refine ⟨_, rfl, ?_⟩; have n0_ := Aside0.mk (Kd.V_below (by (with_reducible repeat (first | apply Kd.V_alloc | apply Kd.V_drewN | apply Kd.V_drew)); exact HO_1.out) hb); have n1_ := Aside0.mk (Kd.V_lower (Kd.V_mono (ok' := fun k_ => (P1_ k_ ∨ w.heap.size ≤ k_)) ho0 (fun k_ hk_ => Or.elim hk_ (fun hs_ => hs_) (fun hn_ => (.inr (Nat.le_trans (below_size (bb_ HB)) hn_))))) (below_size (bb_ HB))); have n2_ := Aside0.mk (below_step (bb_ HB) hb); clear HO_1; clear HB; have HO_1 := n0_; have HO252 := n1_; have HB := n2_; clear n0_ n1_ n2_; (try clear hb); (try clear hb2); (try clear hk); (try clear hi); (try clear ho0); obtain ⟨Ao13, co13, eo13⟩ := Kd.V_slice HO252.out; subst eo13) | ((with_reducible refine gate_callee (f := 74) rfl ?_); refine gl_ (some 12) Try.func74 #[.slice Ao13 t250.length co13] ?_; (with_reducible refine (cohousingref28_empty.calls k1 _ _ t250 false _ ?side1 ?side2 A4.out).mono ?_); (case side1 => exact cc_ ((Kd.V_reads' HO252.out).2.2)); (case side2 => exact (Kd.V_reads' HO252.out).2.1); rintro e w' ⟨rfl, ⟨nd, rfl⟩⟩; refine ⟨_, rfl, ?_⟩) | ((with_reducible refine gate_callee (f := 75) rfl ?_); refine gl_ (some 15) Try.func75 #[.slice Ao13 t250.length co13, .slice Ao11 x1_1.length co11] ?_; (with_reducible refine (cohousingref28_Same.calls k1 _ _ t250 _ _ x1_1 true _ ?side1 ?side2 ?side3 ?side4 A9.out).mono ?_); (case side1 => exact cc_ ((Kd.V_reads' HO252.out).2.2)); (case side2 => exact (Kd.V_reads' HO252.out).2.1); (case side3 => exact cc_ ((Kd.V_reads' HO_1.out).2.2)); (case side4 => exact (Kd.V_reads' HO_1.out).2.1); rintro e w' ⟨rfl, ⟨nd, rfl⟩⟩; refine ⟨_, rfl, ?_⟩))
     go_ret2
     exact ⟨_, ew_, by (with_reducible repeat (first | apply Kd.V_alloc | apply Kd.V_drewN | apply Kd.V_drew)); exact HO252.out, by repeat (first | (with_reducible first | exact HB.out | apply below_alloc | apply pw_below_drewN | apply below_drew1) | exact HB.out)⟩
    ·replace c10 := Bool.eq_false_iff.mpr c10
     subst c10
     have H1 : (cohousingref28_bounds.l0 k1 l0 t250) = some (r1, r2) := by rw [if_neg (show ¬ (false = true) by decide)] at H; exact H
     clear H
     have H := H1
     clear H1
     have H' := Aside0.mk H
     clear H
     obtain ⟨Ao14, co14, eo14⟩ := Kd.V_slice HO_1.out
     subst eo14
     go_wp2_with (first | ((with_reducible refine gate_callee (f := 73) rfl ?_); refine gl_ (some 10) Try.func73 #[.slice A0 l0.length c0, .slice Ao14 x1_1.length co14] ?_; (with_reducible refine (cohousingref28_once.calls k1 _ _ l0 (fun k_ => (P1_ k_ ∨ w.heap.size ≤ k_)) _ _ x1_1 t250 _ ?side1 ?side2 ?side3 A3.out).mono ?_); (case side1 => exact cc_ ((Kd.C_below HR0.out HB.out))); (case side2 => exact HC0.out); (case side3 => exact HO_1.out); rintro e w15 ⟨v251, rfl, ho0, hb⟩; refine ⟨_, rfl, ?_⟩; have n0_ := Aside0.mk (Kd.V_below (by (with_reducible repeat (first | apply Kd.V_alloc | apply Kd.V_drewN | apply Kd.V_drew)); exact HO_1.out) hb); have n1_ := Aside0.mk (Kd.V_lower (Kd.V_mono (ok' := fun k_ => (P1_ k_ ∨ w.heap.size ≤ k_)) ho0 (fun k_ hk_ => Or.elim hk_ (fun hs_ => hs_) (fun hn_ => (.inr (Nat.le_trans (below_size (bb_ HB)) hn_))))) (below_size (bb_ HB))); have n2_ := Aside0.mk (below_step (bb_ HB) hb); clear HO_1; clear HB; have HO_1 := n0_; have HO252 := n1_; have HB := n2_; clear n0_ n1_ n2_; (try clear hb); (try clear hb2); (try clear hk); (try clear hi); (try clear ho0); obtain ⟨Ao16, co16, eo16⟩ := Kd.V_slice HO252.out; subst eo16) | ((with_reducible refine gate_callee (f := 74) rfl ?_); refine gl_ (some 12) Try.func74 #[.slice Ao16 t250.length co16] ?_; (with_reducible refine (cohousingref28_empty.calls k1 _ _ t250 false _ ?side1 ?side2 A4.out).mono ?_); (case side1 => exact cc_ ((Kd.V_reads' HO252.out).2.2)); (case side2 => exact (Kd.V_reads' HO252.out).2.1); rintro e w' ⟨rfl, ⟨nd, rfl⟩⟩; refine ⟨_, rfl, ?_⟩) | ((with_reducible refine gate_callee (f := 75) rfl ?_); refine gl_ (some 15) Try.func75 #[.slice Ao16 t250.length co16, .slice Ao14 x1_1.length co14] ?_; (with_reducible refine (cohousingref28_Same.calls k1 _ _ t250 _ _ x1_1 false _ ?side1 ?side2 ?side3 ?side4 A9.out).mono ?_); (case side1 => exact cc_ ((Kd.V_reads' HO252.out).2.2)); (case side2 => exact (Kd.V_reads' HO252.out).2.1); (case side3 => exact cc_ ((Kd.V_reads' HO_1.out).2.2)); (case side4 => exact (Kd.V_reads' HO_1.out).2.1); rintro e w' ⟨rfl, ⟨nd, rfl⟩⟩; refine ⟨_, rfl, ?_⟩))
     go_roundg k1
     case measure => have := HK1.out; omega
     case rel => exact ⟨(t250), H', ⟨by have := HK1.out; omega⟩, ⟨by (with_reducible repeat (first | apply Kd.V_alloc | apply Kd.V_drewN | apply Kd.V_drew)); exact HO252.out⟩, ⟨by repeat (first | (with_reducible first | exact HB.out | apply below_alloc | apply pw_below_drewN | apply below_drew1) | exact HB.out)⟩⟩
end
section
def cohousingref28_Bounds.j0 : Nat → List (S44) → List (S46) → Bool → Option ((List (S46)) × Int)
 | 0, _, _, _ => none
 | k + 1, x0, x1, x20 => if x20 = true then (some (([] : List (S46)), 1)) else ((cohousingref28_bounds.f k x0 x1).bind fun bt257 => (if bt257.2 = true then ((some (([] : List (S46)) : List (S46))).bind fun y261 => (if y261.length + bt257.1.length < 8796093022208 then (some ((y261 ++ bt257.1), 0)) else (none))) else (some (([] : List (S46)), 30))))
def cohousingref28_Bounds.f (k : Nat) (l0 : List (S44)) (l1 : List (S46)) : Option ((List (S46)) × Int) := (cohousingref28_Valid.f k l0).bind fun t255 => ((cohousingref28_Belongs.f l0 l1).bind fun t256 => (if t255 = true then (cohousingref28_Bounds.j0 k l0 l1 (!t256)) else (cohousingref28_Bounds.j0 k l0 l1 true)))
theorem cohousingref28_Bounds.mono_l : ∀ k, (∀ y0 y1 y2, LeO (cohousingref28_Bounds.j0 k y0 y1 y2) (cohousingref28_Bounds.j0 (k + 1) y0 y1 y2))
 | 0 => fun _ _ _ r h => by simp [cohousingref28_Bounds.j0] at h
 | k + 1 => by
  have ih0 := cohousingref28_Bounds.mono_l k
  ·intro y0 y1 y2
   unfold cohousingref28_Bounds.j0
   repeat' first
   | (with_reducible exact ih0 _ _ _)
   | (with_reducible exact cohousingref28_Valid.mono _ _)
   | (with_reducible exact cohousingref28_bounds.mono _ _ _)
   | (with_reducible exact LeO.refl _)
   | (with_reducible exact LeO.none _)
   | (with_reducible refine LeO.ite ?_ ?_)
   | (with_reducible refine LeO.bind ?_ (fun _ => ?_))
   | exact ih0 _ _ _
   | exact cohousingref28_Valid.mono _ _
   | exact cohousingref28_bounds.mono _ _ _
   | exact LeO.none _
   | refine LeO.ite ?_ ?_
   | refine LeO.bind ?_ (fun _ => ?_)
theorem cohousingref28_Bounds.mono : ∀ a0 a1 k, LeO (cohousingref28_Bounds.f k a0 a1) (cohousingref28_Bounds.f (k + 1) a0 a1) := by
 intro a0 a1 k
 have ih0 := cohousingref28_Bounds.mono_l k
 unfold cohousingref28_Bounds.f
 repeat' first
   | (with_reducible exact ih0 _ _ _)
   | (with_reducible exact cohousingref28_Valid.mono _ _)
   | (with_reducible exact cohousingref28_bounds.mono _ _ _)
   | (with_reducible exact LeO.refl _)
   | (with_reducible exact LeO.none _)
   | (with_reducible refine LeO.ite ?_ ?_)
   | (with_reducible refine LeO.bind ?_ (fun _ => ?_))
   | exact ih0 _ _ _
   | exact cohousingref28_Valid.mono _ _
   | exact cohousingref28_bounds.mono _ _ _
   | exact LeO.none _
   | refine LeO.ite ?_ ?_
   | refine LeO.bind ?_ (fun _ => ?_)
theorem cohousingref28_Bounds.calls (k : Nat) (A0 : Option Addr) (c0 : Nat) (l0 : List (S44)) (A1 : Option Addr) (c1 : Nat) (l1 : List (S46)) (r1 : List (S46)) (r2 : Int) (w : World) (hr0 : Kd.C k44 w A0 l0.length l0) (hc0 : l0.length ≤ c0) (hr1 : Kd.C k46 w A1 l1.length l1) (hc1 : l1.length ≤ c1) (h : cohousingref28_Bounds.f k l0 l1 = some (r1, r2)) :
  Calls Try.prog 70 #[.slice A0 l0.length c0, .slice A1 l1.length c1] w fun e w' => ∃ v0_ : Value, e = .returned (.tuple #[v0_, .int .i64 r2]) ∧ Kd.R k46 46 w' w.heap.size (fun _ => True) v0_ r1 ∧ Below w.heap.size w w' := by
 have HR0 := Aside0.mk hr0
 have HC0 := Aside0.mk hc0
 clear hr0 hc0
 have HR1 := Aside0.mk hr1
 have HC1 := Aside0.mk hc1
 clear hr1 hc1
 have HB := Aside0.mk (Below.refl w.heap.size w)
 have H : ((cohousingref28_Valid.f k l0).bind fun t255 => ((cohousingref28_Belongs.f l0 l1).bind fun t256 => (if t255 = true then (cohousingref28_Bounds.j0 k l0 l1 (!t256)) else (cohousingref28_Bounds.j0 k l0 l1 true)))) = some (r1, r2) := h
 clear h
 replace H := Option.bind_eq_some_iff.mp H
 obtain ⟨t255, A30, H⟩ := H
 replace H : ((cohousingref28_Belongs.f l0 l1).bind fun t256 => (if t255 = true then (cohousingref28_Bounds.j0 k l0 l1 (!t256)) else (cohousingref28_Bounds.j0 k l0 l1 true))) = some (r1, r2) := H
 have A3 := Aside0.mk A30
 clear A30
 replace H := Option.bind_eq_some_iff.mp H
 obtain ⟨t256, A40, H⟩ := H
 replace H : (if t255 = true then (cohousingref28_Bounds.j0 k l0 l1 (!t256)) else (cohousingref28_Bounds.j0 k l0 l1 true)) = some (r1, r2) := H
 have A4 := Aside0.mk A40
 clear A40
 have HC5 := Aside0.mk H
 clear H
 go_enter Try.func70, Try.ntmps70
 go_upto_region 3 with (first | ((with_reducible refine gate_callee (f := 23) rfl ?_); refine gl_ (some 11) Try.func23 #[.slice A0 l0.length c0] ?_; (with_reducible refine (cohousingref28_Valid.calls k _ _ l0 t255 _ ?side1 ?side2 A3.out).mono ?_); (case side1 => exact cc_ (HR0.out)); (case side2 => exact HC0.out); rintro e w6 ⟨rfl, hb⟩; refine ⟨_, rfl, ?_⟩; have n0_ := Aside0.mk (below_step (bb_ HB) hb); clear HB; have HB := n0_; clear n0_; (try clear hb); (try clear hb2); (try clear hk); (try clear hi)) | ((with_reducible refine gate_callee (f := 34) rfl ?_); refine gl_ (some 14) Try.func34 #[.slice A0 l0.length c0, .slice A1 l1.length c1] ?_; (with_reducible refine (cohousingref28_Belongs.calls _ _ l0 _ _ l1 t256 _ ?side1 ?side2 ?side3 ?side4 A4.out).mono ?_); (case side1 => exact cc_ ((Kd.C_below HR0.out HB.out))); (case side2 => exact HC0.out); (case side3 => exact cc_ ((Kd.C_below HR1.out HB.out))); (case side4 => exact HC1.out); rintro e w7 ⟨rfl, hb⟩; refine ⟨_, rfl, ?_⟩; have n0_ := Aside0.mk (below_step (bb_ HB) hb); clear HB; have HB := n0_; clear n0_; (try clear hb); (try clear hb2); (try clear hk); (try clear hi)))
 (try simp only [Act.put, sI_, s0_, sS_])
 go_cut [20] (fun v20 wc => ∃ (kq : Nat) (x20_4 : Bool), v20 = .bool x20_4 ∧ Aside0 (cohousingref28_Bounds.j0 kq l0 l1 x20_4 = some (r1, r2)) ∧ Aside0 (kq ≤ k) ∧ Aside0 (Below w.heap.size w wc))
 case first =>
  have H := HC5.out
  clear HC5
  by_cases c8 : t255 = true
  ·subst c8
   have H1 : (cohousingref28_Bounds.j0 k l0 l1 (!t256)) = some (r1, r2) := by rw [if_pos rfl] at H; exact H
   clear H
   have H := H1
   clear H1
   have H' := Aside0.mk H
   clear H
   go_wp2
   go_meet
   case rel => exact ⟨_, (!t256), sd_, H', ⟨by first | omega | exact Nat.le_refl _⟩, ⟨by repeat (first | (with_reducible first | exact HB.out | apply below_alloc | apply pw_below_drewN | apply below_drew1) | exact HB.out)⟩⟩
  ·replace c8 := Bool.eq_false_iff.mpr c8
   subst c8
   have H1 : (cohousingref28_Bounds.j0 k l0 l1 true) = some (r1, r2) := by rw [if_neg (show ¬ (false = true) by decide)] at H; exact H
   clear H
   have H := H1
   clear H1
   have H' := Aside0.mk H
   clear H
   go_wp2
   go_meet
   case rel => exact ⟨_, (true), sd_, H', ⟨by first | omega | exact Nat.le_refl _⟩, ⟨by repeat (first | (with_reducible first | exact HB.out | apply below_alloc | apply pw_below_drewN | apply below_drew1) | exact HB.out)⟩⟩
 case rest =>
  clear HC5
  try clear c1
  try clear c2
  try clear p2
  try clear c3
  try clear c7
  try clear c8
  obtain ⟨kq, x20_4, rfl, HA, HJ4, HB⟩ := hcut
  cases kq with
  | zero => exact absurd HA.out (by simp [cohousingref28_Bounds.j0])
  | succ kj4 =>
   have H := HA.out
   clear HA
   simp only [cohousingref28_Bounds.j0] at H
   by_cases c9 : x20_4 = true
   ·subst c9
    have H1 : (some (([] : List (S46)), 1)) = some (r1, r2) := by rw [if_pos rfl] at H; exact H
    clear H
    have H := H1
    clear H1
    simp only [Option.some.injEq, Prod.mk.injEq] at H
    obtain ⟨rfl, rfl⟩ := H
    go_wp2
    go_ret2
    exact ⟨_, ew_, by first | exact Kd.R_nil _ _ _ _ _ | exact Kd.N_nil _ _ _ _ _ | exact Kd.V_nil _ _ _ _ _ | exact Kd.Q_nil _ _ _ _ _ | exact Kd.S_nil _ _ _ _ _, by repeat (first | (with_reducible first | exact HB.out | apply below_alloc | apply pw_below_drewN | apply below_drew1) | exact HB.out)⟩
   ·replace c9 := Bool.eq_false_iff.mpr c9
    subst c9
    have H1 : ((cohousingref28_bounds.f kj4 l0 l1).bind fun bt257 => (if bt257.2 = true then ((some (([] : List (S46)) : List (S46))).bind fun y261 => (if y261.length + bt257.1.length < 8796093022208 then (some ((y261 ++ bt257.1), 0)) else (none))) else (some (([] : List (S46)), 30)))) = some (r1, r2) := by rw [if_neg (show ¬ (false = true) by decide)] at H; exact H
    clear H
    have H := H1
    clear H1
    replace H := Option.bind_eq_some_iff.mp H
    obtain ⟨⟨t257, t260⟩, A100, H⟩ := H
    replace H : (if t260 = true then ((some (([] : List (S46)) : List (S46))).bind fun y261 => (if y261.length + t257.length < 8796093022208 then (some ((y261 ++ t257), 0)) else (none))) else (some (([] : List (S46)), 30))) = some (r1, r2) := H
    have A10 := Aside0.mk A100
    clear A100
    by_cases c11 : t260 = true
    ·subst c11
     have H1 : ((some (([] : List (S46)) : List (S46))).bind fun y261 => (if y261.length + t257.length < 8796093022208 then (some ((y261 ++ t257), 0)) else (none))) = some (r1, r2) := by rw [if_pos rfl] at H; exact H
     clear H
     have H := H1
     clear H1
     obtain ⟨y261, hy261⟩ : ∃ y_ : List (S46), y_ = (([] : List (S46))) := ⟨_, rfl⟩
     replace H : (if y261.length + t257.length < 8796093022208 then (some ((y261 ++ t257), 0)) else (none)) = some (r1, r2) := by first | (rw [hy261]; with_reducible exact H) | (have H2_ := (Option.bind_some _ _).symm.trans H; rw [hy261]; with_reducible exact H2_) | (have H2_ := (Option.bind_some _ _).symm.trans H; with_reducible exact H2_) | with_reducible exact H | (rw [hy261]; exact H) | exact H
     have Ny261 := Aside0.mk hy261
     clear hy261
     by_cases c12 : y261.length + t257.length < 8796093022208
     ·rw [if_pos c12] at H
      have LMc12 := Aside0.mk c12
      clear c12
      obtain ⟨y264, hy264⟩ : ∃ y_ : List (S46), y_ = (y261 ++ t257) := ⟨_, rfl⟩
      replace H : (some (y264, 0)) = some (r1, r2) := by first | (rw [hy264]; with_reducible exact H) | (have H2_ := (Option.bind_some _ _).symm.trans H; rw [hy264]; with_reducible exact H2_) | (have H2_ := (Option.bind_some _ _).symm.trans H; with_reducible exact H2_) | with_reducible exact H | (rw [hy264]; exact H) | exact H
      have Ny264 := Aside0.mk hy264
      clear hy264
      simp only [Option.some.injEq, Prod.mk.injEq] at H
      obtain ⟨rfl, rfl⟩ := H
      go_wp2_with (first | ((with_reducible refine gate_callee (f := 72) rfl ?_); refine gl_ (some 24) Try.func72 #[.slice A0 l0.length c0, .slice A1 l1.length c1] ?_; (with_reducible refine (cohousingref28_bounds.calls kj4 _ _ l0 (fun k_ => k_ < w.heap.size) _ _ l1 t257 true _ ?side1 ?side2 ?side3 A10.out).mono ?_); (case side1 => exact cc_ ((Kd.C_below HR0.out HB.out))); (case side2 => exact HC0.out); (case side3 => exact Kd.V_mk HC1.out (Kd.F_below (Kd.C_F k46_heap HR1.out) (bb_ HB))); rintro e w13 ⟨v258, rfl, ho0, hb⟩; refine ⟨_, rfl, ?_⟩; have n0_ := Aside0.mk (Kd.V_lower (Kd.V_mono (ok' := fun k_ => True) ho0 (fun k_ hk_ => trivial)) (below_size (bb_ HB))); have n1_ := Aside0.mk (below_step (bb_ HB) hb); clear HB; have HO259 := n0_; have HB := n1_; clear n0_ n1_; (try clear hb); (try clear hb2); (try clear hk); (try clear hi); (try clear ho0)) | ((with_reducible refine gate_dst (N := 29) rfl ?_); refine Kd.R_lit k46 _ 46 ?hg (N := 29) ?hd (xs := ([] : List (S46))) (inner := []) (ok := fun _ => True) (okp := fun _ => True) ?hr ?hp (fun _ hk => hk) trivial (Below.refl _ _) (Nat.le_refl _) (by simp) ?_; (case hd => rfl); (case hg => rfl); (case hr => first | (go_simp; done) | (go_simp; rfl)); (case hp => exact (Reps.none _ _)); intro v262 w14 ho15 hb hg_ hnew_; clear hg_ hnew_; (first | rw [← Ny261.out] at ho15 | (simp only [Int.reduceToNat] at ho15; rw [← Ny261.out] at ho15)); have n0_ := Aside0.mk (Kd.V_elder' (by (with_reducible repeat (first | apply Kd.V_alloc | apply Kd.V_drewN | apply Kd.V_drew)); exact HO259.out) (Kd.R_base ho15) hb); have n1_ := Aside0.mk (Kd.R_lower ho15 (below_size (bb_ HB))); have n2_ := Aside0.mk (below_step (bb_ HB) hb); clear HO259; clear HB; have HO259 := n0_; have HO263 := n1_; have HB := n2_; clear n0_ n1_ n2_; clear hb ho15; obtain ⟨Ao17, co17, eo17⟩ := Kd.V_slice HO259.out; subst eo17) | ((with_reducible refine gate_builtin (b := .append) (xs := #[.tmp 29, .tmp 30]) rfl ?_); at_builtin; refine Kd.R_append_rows k46 (w0 := w) w.heap.size rfl (.tmp 29) (.tmp 30) 23 46 (.agg #[(.int .i64 0), (.int .i64 0)]) 16 rfl Try.underlying23 info46 rfl (by decide) (by omega) v262 y261 t257 _ _ _ (fun _ => True) (fun _ => False) rfl rfl ?aO ?aR (fun _ _ h => h) (fun _ h => h.elim) ?aF ?aB ?aS ?aL ?_; (case aR => exact cc_ ((Kd.V_reads' HO259.out).2.2)); (case aB => exact (bb_ HB)); (case aF => exact (fun _ _ => trivial)); (case aO => exact (rr_ HO263)); (case aS => exact (below_size (bb_ HB))); (case aL => have := LMc12.out; omega); intro v265 w16 ho hb hg hat; rw [← Ny264.out] at ho; have n0_ := Aside0.mk (Kd.V_afterv (ok := (fun _ => True)) (by (with_reducible repeat (first | apply Kd.V_alloc | apply Kd.V_drewN | apply Kd.V_drew)); exact HO259.out) hg hat); have n1_ := Aside0.mk (hb); have n2_ := Aside0.mk (ho); clear HO259; clear HB; clear HO263; have HO259 := n0_; have HB := n1_; have HO266 := n2_; clear n0_ n1_ n2_; clear ho hb hg hat))
      go_ret2
      exact ⟨_, ew_, by (with_reducible repeat (first | apply Kd.R_alloc | apply Kd.R_drewN | apply Kd.R_drew)); exact HO266.out, by repeat (first | (with_reducible first | exact HB.out | apply below_alloc | apply pw_below_drewN | apply below_drew1) | exact HB.out)⟩
     ·rw [if_neg c12] at H
      exact absurd H (by simp)
    ·replace c11 := Bool.eq_false_iff.mpr c11
     subst c11
     have H1 : (some (([] : List (S46)), 30)) = some (r1, r2) := by rw [if_neg (show ¬ (false = true) by decide)] at H; exact H
     clear H
     have H := H1
     clear H1
     simp only [Option.some.injEq, Prod.mk.injEq] at H
     obtain ⟨rfl, rfl⟩ := H
     go_wp2_with (first | ((with_reducible refine gate_callee (f := 72) rfl ?_); refine gl_ (some 24) Try.func72 #[.slice A0 l0.length c0, .slice A1 l1.length c1] ?_; (with_reducible refine (cohousingref28_bounds.calls kj4 _ _ l0 (fun k_ => k_ < w.heap.size) _ _ l1 t257 false _ ?side1 ?side2 ?side3 A10.out).mono ?_); (case side1 => exact cc_ ((Kd.C_below HR0.out HB.out))); (case side2 => exact HC0.out); (case side3 => exact Kd.V_mk HC1.out (Kd.F_below (Kd.C_F k46_heap HR1.out) (bb_ HB))); rintro e w18 ⟨v258, rfl, ho0, hb⟩; refine ⟨_, rfl, ?_⟩; have n0_ := Aside0.mk (Kd.V_lower (Kd.V_mono (ok' := fun k_ => True) ho0 (fun k_ hk_ => trivial)) (below_size (bb_ HB))); have n1_ := Aside0.mk (below_step (bb_ HB) hb); clear HB; have HO259 := n0_; have HB := n1_; clear n0_ n1_; (try clear hb); (try clear hb2); (try clear hk); (try clear hi); (try clear ho0)))
     go_ret2
     exact ⟨_, ew_, by first | exact Kd.R_nil _ _ _ _ _ | exact Kd.N_nil _ _ _ _ _ | exact Kd.V_nil _ _ _ _ _ | exact Kd.Q_nil _ _ _ _ _ | exact Kd.S_nil _ _ _ _ _, by repeat (first | (with_reducible first | exact HB.out | apply below_alloc | apply pw_below_drewN | apply below_drew1) | exact HB.out)⟩
end
section
def cohousingref30_Explains.f (k : Nat) (l0 : List (S44)) (l1 : List (S46)) (l2 : List Int) : Option (Bool) := (cohousingref30_Leaking.f k l0 l2).bind fun t267 => ((cohousingref28_Bounds.f k t267 l1).bind fun bt270 => (some (bt270.2 == 0)))
theorem cohousingref30_Explains.mono : ∀ a0 a1 a2 k, LeO (cohousingref30_Explains.f k a0 a1 a2) (cohousingref30_Explains.f (k + 1) a0 a1 a2) := by
 intro a0 a1 a2 k
 unfold cohousingref30_Explains.f
 repeat' first
   | (with_reducible exact cohousingref28_Bounds.mono _ _ _)
   | (with_reducible exact cohousingref30_Leaking.mono _ _ _)
   | (with_reducible exact LeO.refl _)
   | (with_reducible exact LeO.none _)
   | (with_reducible refine LeO.ite ?_ ?_)
   | (with_reducible refine LeO.bind ?_ (fun _ => ?_))
   | exact cohousingref28_Bounds.mono _ _ _
   | exact cohousingref30_Leaking.mono _ _ _
   | exact LeO.none _
   | refine LeO.ite ?_ ?_
   | refine LeO.bind ?_ (fun _ => ?_)
theorem cohousingref30_Explains.calls (k : Nat) (A0 : Option Addr) (c0 : Nat) (l0 : List (S44)) (A1 : Option Addr) (c1 : Nat) (l1 : List (S46)) (A2 : Option Addr) (c2 : Nat) (l2 : List Int) (r : Bool) (w : World) (hr0 : Kd.C k44 w A0 l0.length l0) (hc0 : l0.length ≤ c0) (hr1 : Kd.C k46 w A1 l1.length l1) (hc1 : l1.length ≤ c1) (hr2 : Kd.C (Kd.int .i64) w A2 l2.length l2) (hc2 : l2.length ≤ c2) (h : cohousingref30_Explains.f k l0 l1 l2 = some r) :
  Calls Try.prog 60 #[.slice A0 l0.length c0, .slice A1 l1.length c1, .slice A2 l2.length c2] w fun e w' => e = .returned (.bool r) ∧ Below w.heap.size w w' := by
 have HR0 := Aside0.mk hr0
 have HC0 := Aside0.mk hc0
 clear hr0 hc0
 have HR1 := Aside0.mk hr1
 have HC1 := Aside0.mk hc1
 clear hr1 hc1
 have HR2 := Aside0.mk hr2
 have HC2 := Aside0.mk hc2
 clear hr2 hc2
 have HB := Aside0.mk (Below.refl w.heap.size w)
 have H : ((cohousingref30_Leaking.f k l0 l2).bind fun t267 => ((cohousingref28_Bounds.f k t267 l1).bind fun bt270 => (some (bt270.2 == 0)))) = some r := h
 clear h
 replace H := Option.bind_eq_some_iff.mp H
 obtain ⟨t267, A40, H⟩ := H
 replace H : ((cohousingref28_Bounds.f k t267 l1).bind fun bt270 => (some (bt270.2 == 0))) = some r := H
 have A4 := Aside0.mk A40
 clear A40
 replace H := Option.bind_eq_some_iff.mp H
 obtain ⟨⟨t270, t271⟩, A50, H⟩ := H
 replace H : (some (t271 == 0)) = some r := H
 have A5 := Aside0.mk A50
 clear A50
 obtain rfl := Option.some.inj H
 go_enter Try.func60, Try.ntmps60
 go_wp2_with (first | ((with_reducible refine gate_callee (f := 35) rfl ?_); refine gl_ (some 12) Try.func35 #[.slice A0 l0.length c0, .slice A2 l2.length c2] ?_; (with_reducible refine (cohousingref30_Leaking.calls k _ _ l0 _ _ l2 t267 _ ?side1 ?side2 ?side3 ?side4 A4.out).mono ?_); (case side1 => exact cc_ (HR0.out)); (case side2 => exact HC0.out); (case side3 => exact cc_ (HR2.out)); (case side4 => exact HC2.out); rintro e w6 ⟨v268, rfl, ho0, hb⟩; refine ⟨_, rfl, ?_⟩; have n0_ := Aside0.mk (Kd.R_lower ho0 (below_size (bb_ HB))); have n1_ := Aside0.mk (below_step (bb_ HB) hb); clear HB; have HO269 := n0_; have HB := n1_; clear n0_ n1_; (try clear hb); (try clear hb2); (try clear hk); (try clear hi); (try clear ho0); obtain ⟨Ao7, co7, eo7⟩ := Kd.R_slice HO269.out; subst eo7) | ((with_reducible refine gate_callee (f := 70) rfl ?_); refine gl_ (some 14) Try.func70 #[.slice Ao7 t267.length co7, .slice A1 l1.length c1] ?_; (with_reducible refine (cohousingref28_Bounds.calls k _ _ t267 _ _ l1 t270 t271 _ ?side1 ?side2 ?side3 ?side4 A5.out).mono ?_); (case side1 => exact cc_ ((Kd.R_reads' HO269.out).2.2)); (case side2 => exact (Kd.R_reads' HO269.out).2.1); (case side3 => exact cc_ ((Kd.C_below HR1.out HB.out))); (case side4 => exact HC1.out); rintro e w8 ⟨v272, rfl, ho0, hb⟩; refine ⟨_, rfl, ?_⟩; have n0_ := Aside0.mk (Kd.R_below (rr_ HO269) hb); have n1_ := Aside0.mk (Kd.R_lower ho0 (below_size (bb_ HB))); have n2_ := Aside0.mk (below_step (bb_ HB) hb); clear HO269; clear HB; have HO269 := n0_; have HO273 := n1_; have HB := n2_; clear n0_ n1_ n2_; (try clear hb); (try clear hb2); (try clear hk); (try clear hi); (try clear ho0)))
 go_ret
 exact ⟨ew_, by repeat (first | (with_reducible first | exact HB.out | apply below_alloc | apply pw_below_drewN | apply below_drew1) | exact HB.out)⟩
end
section
mutual
def cohousingref30_next.l0 : Nat → List Int → Int → Int → Option (List Int × Bool)
 | 0, _, _, _ => none
 | k + 1, x0, x1, x6 => if x6 ≥ 0 then (if 0 ≤ x6 then (if x6 < (x0.length : Int) then (if (rd x0 x6) < (wrap64 (x1 - (wrap64 ((x0.length : Int) - x6)))) then (if x6 ≤ (x0.length : Int) then (if ([] : List Int).length + (x0.take (x6 : Int).toNat).length < 17592186044416 then (cohousingref30_next.l1 k x0 (([] : List Int) ++ (x0.take (x6 : Int).toNat)) (wrap64 ((rd x0 x6) + 1))) else (none)) else (none)) else (cohousingref30_next.l0 k x0 x1 (wrap64 (x6 - 1)))) else (none)) else (none)) else (some (([] : List Int), false))
def cohousingref30_next.l1 : Nat → List Int → List Int → Int → Option (List Int × Bool)
 | 0, _, _, _ => none
 | k + 1, x0, x7, x8 => if (x7.length : Int) < (x0.length : Int) then (if x7.length < 17592186044416 then (cohousingref30_next.l1 k x0 (x7 ++ [x8]) (wrap64 (x8 + 1))) else (none)) else (some (x7, true))
end
def cohousingref30_next.f (k : Nat) (l0 : List Int) (a1 : Int) : Option (List Int × Bool) := cohousingref30_next.l0 k l0 a1 (wrap64 ((l0.length : Int) - 1))
theorem cohousingref30_next.mono_l : ∀ k, (∀ y0 y1 y2, LeO (cohousingref30_next.l0 k y0 y1 y2) (cohousingref30_next.l0 (k + 1) y0 y1 y2)) ∧ (∀ y0 y1 y2, LeO (cohousingref30_next.l1 k y0 y1 y2) (cohousingref30_next.l1 (k + 1) y0 y1 y2))
 | 0 => ⟨fun _ _ _ r h => by simp [cohousingref30_next.l0] at h, fun _ _ _ r h => by simp [cohousingref30_next.l1] at h⟩
 | k + 1 => by
  obtain ⟨ih0, ih1⟩ := cohousingref30_next.mono_l k
  refine ⟨?_, ?_⟩
  ·intro y0 y1 y2
   unfold cohousingref30_next.l0
   repeat' first
   | (with_reducible exact ih0 _ _ _)
   | (with_reducible exact ih1 _ _ _)
   | (with_reducible exact LeO.refl _)
   | (with_reducible exact LeO.none _)
   | (with_reducible refine LeO.ite ?_ ?_)
   | (with_reducible refine LeO.bind ?_ (fun _ => ?_))
   | exact ih0 _ _ _
   | exact ih1 _ _ _
   | exact LeO.none _
   | refine LeO.ite ?_ ?_
   | refine LeO.bind ?_ (fun _ => ?_)
  ·intro y0 y1 y2
   unfold cohousingref30_next.l1
   repeat' first
   | (with_reducible exact ih0 _ _ _)
   | (with_reducible exact ih1 _ _ _)
   | (with_reducible exact LeO.refl _)
   | (with_reducible exact LeO.none _)
   | (with_reducible refine LeO.ite ?_ ?_)
   | (with_reducible refine LeO.bind ?_ (fun _ => ?_))
   | exact ih0 _ _ _
   | exact ih1 _ _ _
   | exact LeO.none _
   | refine LeO.ite ?_ ?_
   | refine LeO.bind ?_ (fun _ => ?_)
theorem cohousingref30_next.mono : ∀ a0 a1 k, LeO (cohousingref30_next.f k a0 a1) (cohousingref30_next.f (k + 1) a0 a1) := by
 intro a0 a1 k
 obtain ⟨ih0, ih1⟩ := cohousingref30_next.mono_l k
 unfold cohousingref30_next.f
 repeat' first
   | (with_reducible exact ih0 _ _ _)
   | (with_reducible exact ih1 _ _ _)
   | (with_reducible exact LeO.refl _)
   | (with_reducible exact LeO.none _)
   | (with_reducible refine LeO.ite ?_ ?_)
   | (with_reducible refine LeO.bind ?_ (fun _ => ?_))
   | exact ih0 _ _ _
   | exact ih1 _ _ _
   | exact LeO.none _
   | refine LeO.ite ?_ ?_
   | refine LeO.bind ?_ (fun _ => ?_)
theorem cohousingref30_next.calls (k : Nat) (A0 : Option Addr) (c0 : Nat) (l0 : List Int) (a1 : Int) (r1 : List Int) (r2 : Bool) (w : World) (hr0 : Kd.C (Kd.int .i64) w A0 l0.length l0) (hc0 : l0.length ≤ c0) (h : cohousingref30_next.f k l0 a1 = some (r1, r2)) :
  Calls Try.prog 61 #[.slice A0 l0.length c0, .int .i64 a1] w fun e w' => ∃ v0_ : Value, e = .returned (.tuple #[v0_, .bool r2]) ∧ Kd.R (Kd.int .i64) 3 w' w.heap.size (fun _ => True) v0_ r1 ∧ Below w.heap.size w w' := by
 have HR0 := Aside0.mk hr0
 have HC0 := Aside0.mk hc0
 clear hr0 hc0
 have HB := Aside0.mk (Below.refl w.heap.size w)
 have H : (cohousingref30_next.l0 k l0 a1 (wrap64 ((l0.length : Int) - 1))) = some (r1, r2) := h
 clear h
 have H' := Aside0.mk H
 clear H
 go_enter Try.func61, Try.ntmps61
 go_wp2
 go_loopg [6] k (fun kq v6 w' => ∃ (x6_1 : Int), v6 = .int .i64 x6_1 ∧ Aside0 (cohousingref30_next.l0 kq l0 a1 x6_1 = some (r1, r2)) ∧ Aside0 (kq ≤ k) ∧ Aside0 (Below w.heap.size w w'))
 case atStart => exact ⟨(wrap64 ((l0.length : Int) - 1)), sd_, H', ⟨Nat.le_refl _⟩, ⟨by repeat (first | (with_reducible first | exact HB.out | apply below_alloc | apply pw_below_drewN | apply below_drew1) | exact HB.out)⟩⟩
 case round =>
  clear H'
  try clear p2
  obtain ⟨x6_1, rfl, HA, HK1, HB⟩ := hrel
  cases gk with
  | zero => exact absurd HA.out (by simp [cohousingref30_next.l0])
  | succ k1 =>
   have H := HA.out
   clear HA
   simp only [cohousingref30_next.l0] at H
   by_cases c3 : x6_1 ≥ 0
   ·rw [if_pos c3] at H
    have c3b0 : decide (0 ≤ x6_1) = true := decide_eq_true c3
    clear c3
    by_cases c4 : 0 ≤ x6_1
    ·rw [if_pos c4] at H
     have c4b0 : decide (0 ≤ x6_1) = true := decide_eq_true c4
     clear c4
     by_cases c5 : x6_1 < (l0.length : Int)
     ·rw [if_pos c5] at H
      have c5b0 : decide (x6_1 < (l0.length : Int)) = true := decide_eq_true c5
      clear c5
      by_cases c6 : (rd l0 x6_1) < (wrap64 (a1 - (wrap64 ((l0.length : Int) - x6_1))))
      ·rw [if_pos c6] at H
       have c6b0 : decide ((rd l0 x6_1) < (wrap64 (a1 - (wrap64 ((l0.length : Int) - x6_1))))) = true := decide_eq_true c6
       clear c6
       have c7b0 := eq_true (od_ : 0 ≤ x6_1)
       by_cases c8 : x6_1 ≤ (l0.length : Int)
       ·rw [if_pos c8] at H
        have c8b0 := eq_true c8
        have c8b1 : decide (x6_1 ≤ (l0.length : Int)) = true := decide_eq_true c8
        clear c8
        by_cases c9 : ([] : List Int).length + (l0.take (x6_1 : Int).toNat).length < 17592186044416
        ·rw [if_pos c9] at H
         have LMc9 := Aside0.mk c9
         clear c9
         obtain ⟨y276, hy276⟩ : ∃ y_ : List Int, y_ = (([] : List Int) ++ (l0.take (x6_1 : Int).toNat)) := ⟨_, rfl⟩
         replace H : (cohousingref30_next.l1 k1 l0 y276 (wrap64 ((rd l0 x6_1) + 1))) = some (r1, r2) := by first | (rw [hy276]; with_reducible exact H) | (have H2_ := (Option.bind_some _ _).symm.trans H; rw [hy276]; with_reducible exact H2_) | (have H2_ := (Option.bind_some _ _).symm.trans H; with_reducible exact H2_) | with_reducible exact H | (rw [hy276]; exact H) | exact H
         have Ny276 := Aside0.mk hy276
         clear hy276
         have H' := Aside0.mk H
         clear H
         have p274 : 0 ≤ (x6_1 : Int) := od_
         have q274 : x6_1 < (l0.length : Int) := od_
         obtain ⟨ad274, e274, hx274_0⟩ := Kd.at_int HR0.out x6_1 p274 q274
         cases e274
         replace hx274_0 := (HB.out.cell (World.block_lt_of_cell? w _ hx274_0)).trans hx274_0
         replace p274 := eq_true p274
         replace q274 := eq_true q274
         obtain ⟨i010, hi010, _, hsz10, _⟩ := info_parts info3
         obtain ⟨hcut10, hA10, hC10⟩ := print_take_of (P := Try.prog) (Value.int .i64) 0 26 3 .i64 Try.underlying26 hi010 hsz10 (some ad274) c0 l0 x6_1 (od_) (od_) HC0.out
         have HR275 := Aside0.mk (Kd.C_of_reads (h1 := fun _ => rfl) (hA10 _ (Kd.reads_of_C HR0.out)))
         have HC275 := Aside0.mk hC10
         clear hA10 hC10 hi010 hsz10
         go_wp2_with (first | ((with_reducible refine gate_builtin (b := .append) (xs := #[.tmp 27, .tmp 30]) rfl ?_); at_builtin; refine Kd.R_append_rows (Kd.int .i64) (w0 := w) w.heap.size rfl (.tmp 27) (.tmp 30) 26 3 (.int .i64 0) 8 rfl Try.underlying26 info3 rfl (by decide) (by omega) (.slice none 0 0) ([] : List Int) (l0.take (x6_1 : Int).toNat) _ _ _ (fun _ => True) (fun _ => False) rfl rfl ?aO ?aR (fun _ _ h => h) (fun _ h => h.elim) ?aF ?aB ?aS ?aL ?_; (case aR => first | (have hr_ := (Kd.C_below HR275.out HB.out); rw [show (l0.take (x6_1 : Int).toNat).length = x6_1.toNat from (by rw [List.length_take]; have h_ : (x6_1 : Int) ≤ (l0.length : Int) := od_; omega)] at hr_; exact hr_) | (rw [← show (l0.take (x6_1 : Int).toNat).length = x6_1.toNat from (by rw [List.length_take]; have h_ : (x6_1 : Int) ≤ (l0.length : Int) := od_; omega)]; exact cc_ ((Kd.C_below HR275.out HB.out))) | (exact cc_ ((Kd.C_below HR275.out HB.out)))); (case aB => exact (bb_ HB)); (case aF => exact (fun _ _ => trivial)); (case aO => exact ((Kd.R_nil _ _ _ _ (fun _ => True)))); (case aS => exact (below_size (bb_ HB))); (case aL => have := LMc9.out; have hlx_ := (show (l0.take (x6_1 : Int).toNat).length = x6_1.toNat from (by rw [List.length_take]; have h_ : (x6_1 : Int) ≤ (l0.length : Int) := od_; omega)); omega); intro v277 w11 ho hb hg hat; rw [← Ny276.out] at ho; have n0_ := Aside0.mk (hb); have n1_ := Aside0.mk (ho); clear HB; have HB := n0_; have HO278 := n1_; clear n0_ n1_; clear ho hb hg hat; have p279 : 0 ≤ (x6_1 : Int) := od_; have q279 : x6_1 < (l0.length : Int) := od_; obtain ⟨ad279, e279, hx279_0⟩ := Kd.at_int HR0.out x6_1 p279 q279; obtain rfl : ad274 = ad279 := (by injection e279); replace hx279_0 := (HB.out.cell (World.block_lt_of_cell? w _ hx279_0)).trans hx279_0; replace p279 := eq_true p279; replace q279 := eq_true q279))
         go_loopg [7, 8] k1 (fun kq v7 v8 w' => ∃ (x7_2 : List Int) (x8_2 : Int), v8 = .int .i64 x8_2 ∧ Aside0 (cohousingref30_next.l1 kq l0 x7_2 x8_2 = some (r1, r2)) ∧ Aside0 (kq ≤ k1) ∧ Aside0 (Kd.R (Kd.int .i64) 3 w' w.heap.size (fun _ => True) v7 x7_2) ∧ Aside0 (Below w.heap.size w w'))
         case atStart => exact ⟨(y276), (wrap64 ((rd l0 x6_1) + 1)), sd_, H', ⟨Nat.le_refl _⟩, ⟨by (with_reducible repeat (first | apply Kd.R_alloc | apply Kd.R_drewN | apply Kd.R_drew)); exact HO278.out⟩, ⟨by repeat (first | (with_reducible first | exact HB.out | apply below_alloc | apply pw_below_drewN | apply below_drew1) | exact HB.out)⟩⟩
         case round =>
          clear H'
          try clear p2
          try clear q2
          try clear hx2
          try clear c3
          try clear c3b0
          try clear c4
          try clear c4b0
          try clear c5
          try clear c5b0
          try clear c6
          try clear c6b0
          try clear p6
          try clear c7
          try clear c7b0
          try clear c8
          try clear c8b0
          try clear c8b1
          try clear c9
          try clear hx274_0
          try clear hx279_0
          try clear p2
          try clear p274
          try clear p279
          try clear q274
          try clear q279
          obtain ⟨x7_2, x8_2, rfl, HA, HK2, HO_7, HB⟩ := hrel
          cases gk with
          | zero => exact absurd HA.out (by simp [cohousingref30_next.l1])
          | succ k2 =>
           have H := HA.out
           clear HA
           simp only [cohousingref30_next.l1] at H
           by_cases c12 : (x7_2.length : Int) < (l0.length : Int)
           ·rw [if_pos c12] at H
            have c12b0 : decide ((x7_2.length : Int) < (l0.length : Int)) = true := decide_eq_true c12
            have c12b1 : decide (x7_2.length < l0.length) = true := decide_eq_true (Int.ofNat_lt.mp c12)
            clear c12
            by_cases c13 : x7_2.length < 17592186044416
            ·rw [if_pos c13] at H
             have LMc13 := Aside0.mk c13
             clear c13
             obtain ⟨y280, hy280⟩ : ∃ y_ : List Int, y_ = (x7_2 ++ [x8_2]) := ⟨_, rfl⟩
             replace H : (cohousingref30_next.l1 k2 l0 y280 (wrap64 (x8_2 + 1))) = some (r1, r2) := by first | (rw [hy280]; with_reducible exact H) | (have H2_ := (Option.bind_some _ _).symm.trans H; rw [hy280]; with_reducible exact H2_) | (have H2_ := (Option.bind_some _ _).symm.trans H; with_reducible exact H2_) | with_reducible exact H | (rw [hy280]; exact H) | exact H
             have Ny280 := Aside0.mk hy280
             clear hy280
             have H' := Aside0.mk H
             clear H
             obtain ⟨Ao14, co14, eo14⟩ := Kd.R_slice HO_7.out
             subst eo14
             go_wp2_with (first | ((with_reducible refine gate_builtin (b := .append) (xs := #[.tmp 42, .tmp 44]) rfl ?_); at_builtin; refine Kd.R_append (Kd.int .i64) (w0 := w) w.heap.size rfl (.tmp 42) (.tmp 44) 26 3 (.int .i64 0) 8 rfl Try.underlying26 info3 rfl (by decide) (by omega) (.slice Ao14 x7_2.length co14) x7_2 x8_2 [.int .i64 x8_2] (fun _ => True) (fun _ => False) rfl rfl ?aP (fun _ hk => hk.elim) ?aF ?aO ?aB ?aS ?aL ?_; (case aP => exact rfl); (case aB => exact (bb_ HB)); (case aF => exact (fun _ _ => trivial)); (case aO => exact (rr_ HO_7)); (case aS => exact (below_size (bb_ HB))); (case aL => have := LMc13.out; omega); intro v281 w15 ho hb hg hat; rw [← Ny280.out] at ho; have n0_ := Aside0.mk (hb); have n1_ := Aside0.mk (ho); clear HB; clear HO_7; have HB := n0_; have HO282 := n1_; clear n0_ n1_; clear ho hb hg hat))
             go_roundg k2
             case measure => have := HK1.out; have := HK2.out; omega
             case rel => exact ⟨(y280), (wrap64 (x8_2 + 1)), sd_, H', ⟨by have := HK1.out; have := HK2.out; omega⟩, ⟨by (with_reducible repeat (first | apply Kd.R_alloc | apply Kd.R_drewN | apply Kd.R_drew)); exact HO282.out⟩, ⟨by repeat (first | (with_reducible first | exact HB.out | apply below_alloc | apply pw_below_drewN | apply below_drew1) | exact HB.out)⟩⟩
            ·rw [if_neg c13] at H
             exact absurd H (by simp)
           ·rw [if_neg c12] at H
            have c12b0 : decide ((x7_2.length : Int) < (l0.length : Int)) = false := decide_eq_false c12
            have c12b1 : decide (x7_2.length < l0.length) = false := decide_eq_false (fun h => c12 (Int.ofNat_lt.mpr h))
            clear c12
            simp only [Option.some.injEq, Prod.mk.injEq] at H
            obtain ⟨rfl, rfl⟩ := H
            obtain ⟨Ao16, co16, eo16⟩ := Kd.R_slice HO_7.out
            subst eo16
            go_wp2
            go_ret2
            exact ⟨_, ew_, by (with_reducible repeat (first | apply Kd.R_alloc | apply Kd.R_drewN | apply Kd.R_drew)); exact HO_7.out, by repeat (first | (with_reducible first | exact HB.out | apply below_alloc | apply pw_below_drewN | apply below_drew1) | exact HB.out)⟩
        ·rw [if_neg c9] at H
         exact absurd H (by simp)
       ·rw [if_neg c8] at H
        exact absurd H (by simp)
      ·rw [if_neg c6] at H
       have c6b0 : decide ((rd l0 x6_1) < (wrap64 (a1 - (wrap64 ((l0.length : Int) - x6_1))))) = false := decide_eq_false c6
       clear c6
       have H' := Aside0.mk H
       clear H
       have p274 : 0 ≤ (x6_1 : Int) := od_
       have q274 : x6_1 < (l0.length : Int) := od_
       obtain ⟨ad274, e274, hx274_0⟩ := Kd.at_int HR0.out x6_1 p274 q274
       cases e274
       replace hx274_0 := (HB.out.cell (World.block_lt_of_cell? w _ hx274_0)).trans hx274_0
       replace p274 := eq_true p274
       replace q274 := eq_true q274
       go_wp2
       go_roundg k1
       case measure => have := HK1.out; omega
       case rel => exact ⟨(wrap64 (x6_1 - 1)), sd_, H', ⟨by have := HK1.out; omega⟩, ⟨by repeat (first | (with_reducible first | exact HB.out | apply below_alloc | apply pw_below_drewN | apply below_drew1) | exact HB.out)⟩⟩
     ·rw [if_neg c5] at H
      exact absurd H (by simp)
    ·rw [if_neg c4] at H
     exact absurd H (by simp)
   ·rw [if_neg c3] at H
    have c3b0 : decide (0 ≤ x6_1) = false := decide_eq_false c3
    clear c3
    simp only [Option.some.injEq, Prod.mk.injEq] at H
    obtain ⟨rfl, rfl⟩ := H
    go_wp2
    go_ret2
    exact ⟨_, ew_, by first | exact Kd.R_nil _ _ _ _ _ | exact Kd.N_nil _ _ _ _ _ | exact Kd.V_nil _ _ _ _ _ | exact Kd.Q_nil _ _ _ _ _ | exact Kd.S_nil _ _ _ _ _, by repeat (first | (with_reducible first | exact HB.out | apply below_alloc | apply pw_below_drewN | apply below_drew1) | exact HB.out)⟩
end
section
def cohousingref30_all.l0 : Nat → List (S44) → List (S46) → List (List Int) → List Int → Bool → Option ((List (List Int)))
 | 0, _, _, _, _, _ => none
 | k + 1, x0, x1, x7, x8, x9 => if x9 = true then ((cohousingref30_Explains.f k x0 x1 x8).bind fun t286 => (if t286 = true then (if x7.length < 5864062014805 then ((cohousingref30_next.f k x8 (x0.length : Int)).bind fun bt290 => (cohousingref30_all.l0 k x0 x1 (x7 ++ [x8]) bt290.1 bt290.2)) else (none)) else ((cohousingref30_next.f k x8 (x0.length : Int)).bind fun bt294 => (cohousingref30_all.l0 k x0 x1 x7 bt294.1 bt294.2)))) else (some x7)
def cohousingref30_all.f (k : Nat) (l0 : List (S44)) (l1 : List (S46)) (a2 : Int) : Option ((List (List Int))) := if a2 > (l0.length : Int) then (some ([] : List (List Int))) else ((cohousingref30_first.f k a2).bind fun t283 => (cohousingref30_all.l0 k l0 l1 ([] : List (List Int)) t283 true))
theorem cohousingref30_all.mono_l : ∀ k, (∀ y0 y1 y2 y3 y4, LeO (cohousingref30_all.l0 k y0 y1 y2 y3 y4) (cohousingref30_all.l0 (k + 1) y0 y1 y2 y3 y4))
 | 0 => fun _ _ _ _ _ r h => by simp [cohousingref30_all.l0] at h
 | k + 1 => by
  have ih0 := cohousingref30_all.mono_l k
  ·intro y0 y1 y2 y3 y4
   unfold cohousingref30_all.l0
   repeat' first
   | (with_reducible exact ih0 _ _ _ _ _)
   | (with_reducible exact cohousingref30_Explains.mono _ _ _ _)
   | (with_reducible exact cohousingref30_first.mono _ _)
   | (with_reducible exact cohousingref30_next.mono _ _ _)
   | (with_reducible exact LeO.refl _)
   | (with_reducible exact LeO.none _)
   | (with_reducible refine LeO.ite ?_ ?_)
   | (with_reducible refine LeO.bind ?_ (fun _ => ?_))
   | exact ih0 _ _ _ _ _
   | exact cohousingref30_Explains.mono _ _ _ _
   | exact cohousingref30_first.mono _ _
   | exact cohousingref30_next.mono _ _ _
   | exact LeO.none _
   | refine LeO.ite ?_ ?_
   | refine LeO.bind ?_ (fun _ => ?_)
theorem cohousingref30_all.mono : ∀ a0 a1 a2 k, LeO (cohousingref30_all.f k a0 a1 a2) (cohousingref30_all.f (k + 1) a0 a1 a2) := by
 intro a0 a1 a2 k
 have ih0 := cohousingref30_all.mono_l k
 unfold cohousingref30_all.f
 repeat' first
   | (with_reducible exact ih0 _ _ _ _ _)
   | (with_reducible exact cohousingref30_Explains.mono _ _ _ _)
   | (with_reducible exact cohousingref30_first.mono _ _)
   | (with_reducible exact cohousingref30_next.mono _ _ _)
   | (with_reducible exact LeO.refl _)
   | (with_reducible exact LeO.none _)
   | (with_reducible refine LeO.ite ?_ ?_)
   | (with_reducible refine LeO.bind ?_ (fun _ => ?_))
   | exact ih0 _ _ _ _ _
   | exact cohousingref30_Explains.mono _ _ _ _
   | exact cohousingref30_first.mono _ _
   | exact cohousingref30_next.mono _ _ _
   | exact LeO.none _
   | refine LeO.ite ?_ ?_
   | refine LeO.bind ?_ (fun _ => ?_)
theorem cohousingref30_all.calls (k : Nat) (A0 : Option Addr) (c0 : Nat) (l0 : List (S44)) (A1 : Option Addr) (c1 : Nat) (l1 : List (S46)) (a2 : Int) (r : List (List Int)) (w : World) (hr0 : Kd.C k44 w A0 l0.length l0) (hc0 : l0.length ≤ c0) (hr1 : Kd.C k46 w A1 l1.length l1) (hc1 : l1.length ≤ c1) (h : cohousingref30_all.f k l0 l1 a2 = some r) :
  Calls Try.prog 47 #[.slice A0 l0.length c0, .slice A1 l1.length c1, .int .i64 a2] w fun e w' => ∃ v0_ : Value, e = .returned (v0_) ∧ Kd.S (Kd.slice 3 (Kd.int .i64)) 26 w' w.heap.size (fun _ => True) v0_ r ∧ Below w.heap.size w w' := by
 have HR0 := Aside0.mk hr0
 have HC0 := Aside0.mk hc0
 clear hr0 hc0
 have HR1 := Aside0.mk hr1
 have HC1 := Aside0.mk hc1
 clear hr1 hc1
 have HB := Aside0.mk (Below.refl w.heap.size w)
 have H : (if a2 > (l0.length : Int) then (some ([] : List (List Int))) else ((cohousingref30_first.f k a2).bind fun t283 => (cohousingref30_all.l0 k l0 l1 ([] : List (List Int)) t283 true))) = some r := h
 clear h
 by_cases c4 : a2 > (l0.length : Int)
 ·rw [if_pos c4] at H
  have c4b0 : decide ((l0.length : Int) < a2) = true := decide_eq_true c4
  clear c4
  obtain rfl := Option.some.inj H
  go_enter Try.func47, Try.ntmps47
  go_wp2
  go_ret
  exact ⟨_, ew_, by first | exact Kd.S_nil _ _ _ _ _ | exact Kd.N_nil _ _ _ _ _ | exact Kd.V_nil _ _ _ _ _ | exact Kd.Q_nil _ _ _ _ _ | exact Kd.R_nil _ _ _ _ _, by repeat (first | (with_reducible first | exact HB.out | apply below_alloc | apply pw_below_drewN | apply below_drew1) | exact HB.out)⟩
 ·rw [if_neg c4] at H
  have c4b0 : decide ((l0.length : Int) < a2) = false := decide_eq_false c4
  clear c4
  replace H := Option.bind_eq_some_iff.mp H
  obtain ⟨t283, A50, H⟩ := H
  replace H : (cohousingref30_all.l0 k l0 l1 ([] : List (List Int)) t283 true) = some r := H
  have A5 := Aside0.mk A50
  clear A50
  have H' := Aside0.mk H
  clear H
  go_enter Try.func47, Try.ntmps47
  go_wp2_with (first | ((with_reducible refine gate_callee (f := 59) rfl ?_); refine gl_ (some 16) Try.func59 #[.int .i64 a2] ?_; (with_reducible refine (cohousingref30_first.calls k a2 t283 _ A5.out).mono ?_); rintro e w6 ⟨v284, rfl, ho0, hb⟩; refine ⟨_, rfl, ?_⟩; have n0_ := Aside0.mk (Kd.R_lower ho0 (below_size (bb_ HB))); have n1_ := Aside0.mk (below_step (bb_ HB) hb); clear HB; have HO285 := n0_; have HB := n1_; clear n0_ n1_; (try clear hb); (try clear hb2); (try clear hk); (try clear hi); (try clear ho0)))
  go_loopg [7, 8, 9] k (fun kq v7 v8 v9 w' => ∃ (x7_1 : List (List Int)) (x8_1 : List Int) (x9_1 : Bool), v9 = .bool x9_1 ∧ Aside0 (cohousingref30_all.l0 kq l0 l1 x7_1 x8_1 x9_1 = some r) ∧ Aside0 (kq ≤ k) ∧ Aside0 (Kd.S (Kd.slice 3 (Kd.int .i64)) 26 w' w.heap.size (fun k_ => some k_ ≠ (v8 : Value).ownBlock) v7 x7_1) ∧ Aside0 (Kd.R (Kd.int .i64) 3 w' w.heap.size (fun _ => True) v8 x8_1) ∧ Aside0 (Below w.heap.size w w'))
  case atStart => exact ⟨(([] : List (List Int))), (t283), (true), sd_, H', ⟨Nat.le_refl _⟩, ⟨by first | exact Kd.S_nil _ _ _ _ _ | exact Kd.N_nil _ _ _ _ _ | exact Kd.V_nil _ _ _ _ _ | exact Kd.Q_nil _ _ _ _ _ | exact Kd.R_nil _ _ _ _ _⟩, ⟨by (with_reducible repeat (first | apply Kd.R_alloc | apply Kd.R_drewN | apply Kd.R_drew)); exact HO285.out⟩, ⟨by repeat (first | (with_reducible first | exact HB.out | apply below_alloc | apply pw_below_drewN | apply below_drew1) | exact HB.out)⟩⟩
  case round =>
   clear H'
   try clear c1
   try clear p2
   try clear c4
   try clear c4b0
   try clear c5
   obtain ⟨x7_1, x8_1, x9_1, rfl, HA, HK1, HO_7, HO_8, HB⟩ := hrel
   cases gk with
   | zero => exact absurd HA.out (by simp [cohousingref30_all.l0])
   | succ k1 =>
    have H := HA.out
    clear HA
    simp only [cohousingref30_all.l0] at H
    by_cases c7 : x9_1 = true
    ·subst c7
     have H1 : ((cohousingref30_Explains.f k1 l0 l1 x8_1).bind fun t286 => (if t286 = true then (if x7_1.length < 5864062014805 then ((cohousingref30_next.f k1 x8_1 (l0.length : Int)).bind fun bt290 => (cohousingref30_all.l0 k1 l0 l1 (x7_1 ++ [x8_1]) bt290.1 bt290.2)) else (none)) else ((cohousingref30_next.f k1 x8_1 (l0.length : Int)).bind fun bt294 => (cohousingref30_all.l0 k1 l0 l1 x7_1 bt294.1 bt294.2)))) = some r := by rw [if_pos rfl] at H; exact H
     clear H
     have H := H1
     clear H1
     replace H := Option.bind_eq_some_iff.mp H
     obtain ⟨t286, A80, H⟩ := H
     replace H : (if t286 = true then (if x7_1.length < 5864062014805 then ((cohousingref30_next.f k1 x8_1 (l0.length : Int)).bind fun bt290 => (cohousingref30_all.l0 k1 l0 l1 (x7_1 ++ [x8_1]) bt290.1 bt290.2)) else (none)) else ((cohousingref30_next.f k1 x8_1 (l0.length : Int)).bind fun bt294 => (cohousingref30_all.l0 k1 l0 l1 x7_1 bt294.1 bt294.2))) = some r := H
     have A8 := Aside0.mk A80
     clear A80
     by_cases c9 : t286 = true
     ·subst c9
      have H1 : (if x7_1.length < 5864062014805 then ((cohousingref30_next.f k1 x8_1 (l0.length : Int)).bind fun bt290 => (cohousingref30_all.l0 k1 l0 l1 (x7_1 ++ [x8_1]) bt290.1 bt290.2)) else (none)) = some r := by rw [if_pos rfl] at H; exact H
      clear H
      have H := H1
      clear H1
      by_cases c10 : x7_1.length < 5864062014805
      ·rw [if_pos c10] at H
       have LMc10 := Aside0.mk c10
       clear c10
       obtain ⟨y287, hy287⟩ : ∃ y_ : List (List Int), y_ = (x7_1 ++ [x8_1]) := ⟨_, rfl⟩
       replace H : ((cohousingref30_next.f k1 x8_1 (l0.length : Int)).bind fun bt290 => (cohousingref30_all.l0 k1 l0 l1 y287 bt290.1 bt290.2)) = some r := by first | (rw [hy287]; with_reducible exact H) | (have H2_ := (Option.bind_some _ _).symm.trans H; rw [hy287]; with_reducible exact H2_) | (have H2_ := (Option.bind_some _ _).symm.trans H; with_reducible exact H2_) | with_reducible exact H | (rw [hy287]; exact H) | exact H
       have Ny287 := Aside0.mk hy287
       clear hy287
       replace H := Option.bind_eq_some_iff.mp H
       obtain ⟨⟨t290, t291⟩, A110, H⟩ := H
       replace H : (cohousingref30_all.l0 k1 l0 l1 y287 t290 t291) = some r := H
       have A11 := Aside0.mk A110
       clear A110
       have H' := Aside0.mk H
       clear H
       obtain ⟨Ao12, co12, eo12⟩ := Kd.R_slice HO_8.out
       subst eo12
       go_wp2_with (first | ((with_reducible refine gate_callee (f := 60) rfl ?_); refine gl_ (some 21) Try.func60 #[.slice A0 l0.length c0, .slice A1 l1.length c1, .slice Ao12 x8_1.length co12] ?_; (with_reducible refine (cohousingref30_Explains.calls k1 _ _ l0 _ _ l1 _ _ x8_1 true _ ?side1 ?side2 ?side3 ?side4 ?side5 ?side6 A8.out).mono ?_); (case side1 => exact cc_ ((Kd.C_below HR0.out HB.out))); (case side2 => exact HC0.out); (case side3 => exact cc_ ((Kd.C_below HR1.out HB.out))); (case side4 => exact HC1.out); (case side5 => exact cc_ ((Kd.R_reads' HO_8.out).2.2)); (case side6 => exact (Kd.R_reads' HO_8.out).2.1); rintro e w13 ⟨rfl, hb⟩; refine ⟨_, rfl, ?_⟩; have n0_ := Aside0.mk (Kd.S_below (by (with_reducible repeat (first | apply Kd.S_alloc | apply Kd.S_drewN | apply Kd.S_drew)); exact HO_7.out) hb); have n1_ := Aside0.mk (Kd.R_below (rr_ HO_8) hb); have n2_ := Aside0.mk (below_step (bb_ HB) hb); clear HO_7; clear HO_8; clear HB; have HO_7 := n0_; have HO_8 := n1_; have HB := n2_; clear n0_ n1_ n2_; (try clear hb); (try clear hb2); (try clear hk); (try clear hi)) | ((with_reducible refine gate_builtin (b := .append) (xs := #[.tmp 22, .tmp 24]) rfl ?_); at_builtin; refine Kd.S_append (Kd.slice 3 (Kd.int .i64)) (w0 := w) w.heap.size rfl (.tmp 22) (.tmp 24) 58 26 (.slice none 0 0) 24 rfl Try.underlying58 info26 rfl (by decide) (by omega) u7 x7_1 x8_1 [.slice Ao12 x8_1.length co12] (fun _ => True) (fun k_ => some k_ = (.slice Ao12 x8_1.length co12 : Value).ownBlock) rfl rfl ?aP (fun k_ hk_ => ((Kd.R_mono (ok' := fun k_ => ((fun _ => True)) k_ ∧ some k_ ≠ (u7 : Value).ownBlock) (Kd.R_apart' (HO_8.out) (Kd.S_typed HO_7.out) (by decide)) (fun k_ hk => ⟨trivial, hk.2⟩))).1 k_ hk_.symm) ?aF ?aO ?aB ?aS ?aL ?_; (case aP => exact Kd.M_row (Kd.R_mono (Kd.R_tight rfl (Kd.R_mono (ok' := fun k_ => ((fun _ => True)) k_ ∧ some k_ ≠ (u7 : Value).ownBlock) (Kd.R_apart' (HO_8.out) (Kd.S_typed HO_7.out) (by decide)) (fun k_ hk => ⟨trivial, hk.2⟩))) (fun _ h_ => h_))); (case aB => exact (bb_ HB)); (case aF => exact (fun _ _ => trivial)); (case aO => exact (by (with_reducible repeat (first | apply Kd.S_alloc | apply Kd.S_drewN | apply Kd.S_drew)); exact Kd.S_mono HO_7.out (fun k_ hk => ⟨trivial, fun e_ => hk e_⟩))); (case aS => exact (below_size (bb_ HB))); (case aL => have := LMc10.out; omega); intro v288 w14 ho hb hg hat; rw [← Ny287.out] at ho; have n0_ := Aside0.mk (hb); have n1_ := Aside0.mk (ho); have n9_ := Aside0.mk (Kd.R_over' HO_8.out (Kd.S_typed HO_7.out) (by decide) hg); clear HB; clear HO_7; clear HO_8; have HB := n0_; have HO289 := n1_; have HO_8 := n9_; clear n0_ n1_ n9_; clear ho hb hg hat) | ((with_reducible refine gate_callee (f := 61) rfl ?_); refine gl_ (some 30) Try.func61 #[.slice Ao12 x8_1.length co12, .int .i64 (l0.length : Int)] ?_; (with_reducible refine (cohousingref30_next.calls k1 _ _ x8_1 (l0.length : Int) t290 t291 _ ?side1 ?side2 A11.out).mono ?_); (case side1 => exact cc_ ((Kd.R_reads' HO_8.out).2.2)); (case side2 => exact (Kd.R_reads' HO_8.out).2.1); rintro e w15 ⟨v292, rfl, ho0, hb⟩; refine ⟨_, rfl, ?_⟩; have n0_ := Aside0.mk (Kd.S_elder' (by (with_reducible repeat (first | apply Kd.S_alloc | apply Kd.S_drewN | apply Kd.S_drew)); exact HO289.out) (Kd.R_base ho0) hb); have n1_ := Aside0.mk (Kd.R_lower ho0 (below_size (bb_ HB))); have n2_ := Aside0.mk (below_step (bb_ HB) hb); clear HO289; clear HB; have HO289 := n0_; have HO293 := n1_; have HB := n2_; clear n0_ n1_ n2_; (try clear hb); (try clear hb2); (try clear hk); (try clear hi); (try clear ho0)))
       go_roundg k1
       case measure => have := HK1.out; omega
       case rel => exact ⟨(y287), (t290), (t291), sd_, H', ⟨by have := HK1.out; omega⟩, ⟨by (with_reducible repeat (first | apply Kd.S_alloc | apply Kd.S_drewN | apply Kd.S_drew)); exact Kd.S_mono HO289.out (fun _ hk => hk.2)⟩, ⟨by (with_reducible repeat (first | apply Kd.R_alloc | apply Kd.R_drewN | apply Kd.R_drew)); exact HO293.out⟩, ⟨by repeat (first | (with_reducible first | exact HB.out | apply below_alloc | apply pw_below_drewN | apply below_drew1) | exact HB.out)⟩⟩
      ·rw [if_neg c10] at H
       exact absurd H (by simp)
     ·replace c9 := Bool.eq_false_iff.mpr c9
      subst c9
      have H1 : ((cohousingref30_next.f k1 x8_1 (l0.length : Int)).bind fun bt294 => (cohousingref30_all.l0 k1 l0 l1 x7_1 bt294.1 bt294.2)) = some r := by rw [if_neg (show ¬ (false = true) by decide)] at H; exact H
      clear H
      have H := H1
      clear H1
      replace H := Option.bind_eq_some_iff.mp H
      obtain ⟨⟨t294, t295⟩, A160, H⟩ := H
      replace H : (cohousingref30_all.l0 k1 l0 l1 x7_1 t294 t295) = some r := H
      have A16 := Aside0.mk A160
      clear A160
      have H' := Aside0.mk H
      clear H
      obtain ⟨Ao17, co17, eo17⟩ := Kd.R_slice HO_8.out
      subst eo17
      go_wp2_with (first | ((with_reducible refine gate_callee (f := 60) rfl ?_); refine gl_ (some 21) Try.func60 #[.slice A0 l0.length c0, .slice A1 l1.length c1, .slice Ao17 x8_1.length co17] ?_; (with_reducible refine (cohousingref30_Explains.calls k1 _ _ l0 _ _ l1 _ _ x8_1 false _ ?side1 ?side2 ?side3 ?side4 ?side5 ?side6 A8.out).mono ?_); (case side1 => exact cc_ ((Kd.C_below HR0.out HB.out))); (case side2 => exact HC0.out); (case side3 => exact cc_ ((Kd.C_below HR1.out HB.out))); (case side4 => exact HC1.out); (case side5 => exact cc_ ((Kd.R_reads' HO_8.out).2.2)); (case side6 => exact (Kd.R_reads' HO_8.out).2.1); rintro e w18 ⟨rfl, hb⟩; refine ⟨_, rfl, ?_⟩; have n0_ := Aside0.mk (Kd.S_below (by (with_reducible repeat (first | apply Kd.S_alloc | apply Kd.S_drewN | apply Kd.S_drew)); exact HO_7.out) hb); have n1_ := Aside0.mk (Kd.R_below (rr_ HO_8) hb); have n2_ := Aside0.mk (below_step (bb_ HB) hb); clear HO_7; clear HO_8; clear HB; have HO_7 := n0_; have HO_8 := n1_; have HB := n2_; clear n0_ n1_ n2_; (try clear hb); (try clear hb2); (try clear hk); (try clear hi)) | ((with_reducible refine gate_callee (f := 61) rfl ?_); refine gl_ (some 30) Try.func61 #[.slice Ao17 x8_1.length co17, .int .i64 (l0.length : Int)] ?_; (with_reducible refine (cohousingref30_next.calls k1 _ _ x8_1 (l0.length : Int) t294 t295 _ ?side1 ?side2 A16.out).mono ?_); (case side1 => exact cc_ ((Kd.R_reads' HO_8.out).2.2)); (case side2 => exact (Kd.R_reads' HO_8.out).2.1); rintro e w19 ⟨v296, rfl, ho0, hb⟩; refine ⟨_, rfl, ?_⟩; have n0_ := Aside0.mk (Kd.S_elder' (by (with_reducible repeat (first | apply Kd.S_alloc | apply Kd.S_drewN | apply Kd.S_drew)); exact HO_7.out) (Kd.R_base ho0) hb); have n1_ := Aside0.mk (Kd.R_elder' (rr_ HO_8) (Kd.R_base ho0) hb); have n2_ := Aside0.mk (Kd.R_lower (Kd.R_new' ho0 (Kd.R_lt (rr_ HO_8))) (below_size (bb_ HB))); have n3_ := Aside0.mk (below_step (bb_ HB) hb); clear HO_7; clear HO_8; clear HB; have HO_7 := n0_; have HO_8 := n1_; have HO297 := n2_; have HB := n3_; clear n0_ n1_ n2_ n3_; (try clear hb); (try clear hb2); (try clear hk); (try clear hi); (try clear ho0)))
      go_roundg k1
      case measure => have := HK1.out; omega
      case rel => exact ⟨(x7_1), (t294), (t295), sd_, H', ⟨by have := HK1.out; omega⟩, ⟨by (with_reducible repeat (first | apply Kd.S_alloc | apply Kd.S_drewN | apply Kd.S_drew)); exact Kd.S_mono HO_7.out (fun _ hk => hk.2)⟩, ⟨by (with_reducible repeat (first | apply Kd.R_alloc | apply Kd.R_drewN | apply Kd.R_drew)); exact Kd.R_mono HO297.out (fun _ hk => trivial)⟩, ⟨by repeat (first | (with_reducible first | exact HB.out | apply below_alloc | apply pw_below_drewN | apply below_drew1) | exact HB.out)⟩⟩
    ·replace c7 := Bool.eq_false_iff.mpr c7
     subst c7
     have H1 : (some x7_1) = some r := by rw [if_neg (show ¬ (false = true) by decide)] at H; exact H
     clear H
     have H := H1
     clear H1
     obtain rfl := Option.some.inj H
     go_wp2
     go_ret
     exact ⟨_, ew_, by (with_reducible repeat (first | apply Kd.S_alloc | apply Kd.S_drewN | apply Kd.S_drew)); exact Kd.S_mono HO_7.out (fun _ hk => trivial), by repeat (first | (with_reducible first | exact HB.out | apply below_alloc | apply pw_below_drewN | apply below_drew1) | exact HB.out)⟩
end
section
def cohousingref30_smallest.l0 : Nat → List (S44) → List (S46) → Int → Int → Option ((List (List Int)))
 | 0, _, _, _, _ => none
 | k + 1, x0, x1, x2, x7 => if x7 ≤ x2 then ((cohousingref30_all.f k x0 x1 x7).bind fun t298 => (if (t298.length : Int) > 0 then (some t298) else (cohousingref30_smallest.l0 k x0 x1 x2 (wrap64 (x7 + 1))))) else (some ([] : List (List Int)))
def cohousingref30_smallest.f (k : Nat) (l0 : List (S44)) (l1 : List (S46)) (a2 : Int) : Option ((List (List Int))) := cohousingref30_smallest.l0 k l0 l1 a2 0
theorem cohousingref30_smallest.mono_l : ∀ k, (∀ y0 y1 y2 y3, LeO (cohousingref30_smallest.l0 k y0 y1 y2 y3) (cohousingref30_smallest.l0 (k + 1) y0 y1 y2 y3))
 | 0 => fun _ _ _ _ r h => by simp [cohousingref30_smallest.l0] at h
 | k + 1 => by
  have ih0 := cohousingref30_smallest.mono_l k
  ·intro y0 y1 y2 y3
   unfold cohousingref30_smallest.l0
   repeat' first
   | (with_reducible exact ih0 _ _ _ _)
   | (with_reducible exact cohousingref30_all.mono _ _ _ _)
   | (with_reducible exact LeO.refl _)
   | (with_reducible exact LeO.none _)
   | (with_reducible refine LeO.ite ?_ ?_)
   | (with_reducible refine LeO.bind ?_ (fun _ => ?_))
   | exact ih0 _ _ _ _
   | exact cohousingref30_all.mono _ _ _ _
   | exact LeO.none _
   | refine LeO.ite ?_ ?_
   | refine LeO.bind ?_ (fun _ => ?_)
theorem cohousingref30_smallest.mono : ∀ a0 a1 a2 k, LeO (cohousingref30_smallest.f k a0 a1 a2) (cohousingref30_smallest.f (k + 1) a0 a1 a2) := by
 intro a0 a1 a2 k
 have ih0 := cohousingref30_smallest.mono_l k
 unfold cohousingref30_smallest.f
 repeat' first
   | (with_reducible exact ih0 _ _ _ _)
   | (with_reducible exact cohousingref30_all.mono _ _ _ _)
   | (with_reducible exact LeO.refl _)
   | (with_reducible exact LeO.none _)
   | (with_reducible refine LeO.ite ?_ ?_)
   | (with_reducible refine LeO.bind ?_ (fun _ => ?_))
   | exact ih0 _ _ _ _
   | exact cohousingref30_all.mono _ _ _ _
   | exact LeO.none _
   | refine LeO.ite ?_ ?_
   | refine LeO.bind ?_ (fun _ => ?_)
theorem cohousingref30_smallest.calls (k : Nat) (A0 : Option Addr) (c0 : Nat) (l0 : List (S44)) (A1 : Option Addr) (c1 : Nat) (l1 : List (S46)) (a2 : Int) (r : List (List Int)) (w : World) (hr0 : Kd.C k44 w A0 l0.length l0) (hc0 : l0.length ≤ c0) (hr1 : Kd.C k46 w A1 l1.length l1) (hc1 : l1.length ≤ c1) (h : cohousingref30_smallest.f k l0 l1 a2 = some r) :
  Calls Try.prog 29 #[.slice A0 l0.length c0, .slice A1 l1.length c1, .int .i64 a2] w fun e w' => ∃ v0_ : Value, e = .returned (v0_) ∧ Kd.S (Kd.slice 3 (Kd.int .i64)) 26 w' w.heap.size (fun _ => True) v0_ r ∧ Below w.heap.size w w' := by
 have HR0 := Aside0.mk hr0
 have HC0 := Aside0.mk hc0
 clear hr0 hc0
 have HR1 := Aside0.mk hr1
 have HC1 := Aside0.mk hc1
 clear hr1 hc1
 have HB := Aside0.mk (Below.refl w.heap.size w)
 have H : (cohousingref30_smallest.l0 k l0 l1 a2 0) = some r := h
 clear h
 have H' := Aside0.mk H
 clear H
 go_enter Try.func29, Try.ntmps29
 go_wp2
 go_loopg [7] k (fun kq v7 w' => ∃ (x7_1 : Int), v7 = .int .i64 x7_1 ∧ Aside0 (cohousingref30_smallest.l0 kq l0 l1 a2 x7_1 = some r) ∧ Aside0 (kq ≤ k) ∧ Aside0 (Below w.heap.size w w'))
 case atStart => exact ⟨(0), sd_, H', ⟨Nat.le_refl _⟩, ⟨by repeat (first | (with_reducible first | exact HB.out | apply below_alloc | apply pw_below_drewN | apply below_drew1) | exact HB.out)⟩⟩
 case round =>
  clear H'
  try clear c1
  try clear c2
  try clear p2
  obtain ⟨x7_1, rfl, HA, HK1, HB⟩ := hrel
  cases gk with
  | zero => exact absurd HA.out (by simp [cohousingref30_smallest.l0])
  | succ k1 =>
   have H := HA.out
   clear HA
   simp only [cohousingref30_smallest.l0] at H
   by_cases c4 : x7_1 ≤ a2
   ·rw [if_pos c4] at H
    have c4b0 : decide (x7_1 ≤ a2) = true := decide_eq_true c4
    clear c4
    replace H := Option.bind_eq_some_iff.mp H
    obtain ⟨t298, A50, H⟩ := H
    replace H : (if (t298.length : Int) > 0 then (some t298) else (cohousingref30_smallest.l0 k1 l0 l1 a2 (wrap64 (x7_1 + 1)))) = some r := H
    have A5 := Aside0.mk A50
    clear A50
    by_cases c6 : (t298.length : Int) > 0
    ·rw [if_pos c6] at H
     have c6b0 : decide (0 < (t298.length : Int)) = true := decide_eq_true c6
     have c6b1 : decide (0 < t298.length) = true := decide_eq_true (by omega)
     clear c6
     obtain rfl := Option.some.inj H
     go_wp2_with (first | ((with_reducible refine gate_callee (f := 47) rfl ?_); refine gl_ (some 17) Try.func47 #[.slice A0 l0.length c0, .slice A1 l1.length c1, .int .i64 x7_1] ?_; (with_reducible refine (cohousingref30_all.calls k1 _ _ l0 _ _ l1 x7_1 t298 _ ?side1 ?side2 ?side3 ?side4 A5.out).mono ?_); (case side1 => exact cc_ ((Kd.C_below HR0.out HB.out))); (case side2 => exact HC0.out); (case side3 => exact cc_ ((Kd.C_below HR1.out HB.out))); (case side4 => exact HC1.out); rintro e w7 ⟨v299, rfl, ho0, hb⟩; refine ⟨_, rfl, ?_⟩; have n0_ := Aside0.mk (Kd.S_lower ho0 (below_size (bb_ HB))); have n1_ := Aside0.mk (below_step (bb_ HB) hb); clear HB; have HO300 := n0_; have HB := n1_; clear n0_ n1_; (try clear hb); (try clear hb2); (try clear hk); (try clear hi); (try clear ho0); obtain ⟨Ao8, co8, eo8⟩ := Kd.S_slice HO300.out; subst eo8))
     go_ret
     exact ⟨_, ew_, by (with_reducible repeat (first | apply Kd.S_alloc | apply Kd.S_drewN | apply Kd.S_drew)); exact HO300.out, by repeat (first | (with_reducible first | exact HB.out | apply below_alloc | apply pw_below_drewN | apply below_drew1) | exact HB.out)⟩
    ·rw [if_neg c6] at H
     have c6b0 : decide (0 < (t298.length : Int)) = false := decide_eq_false c6
     have c6b1 : decide (0 < t298.length) = false := decide_eq_false (by omega)
     clear c6
     have H' := Aside0.mk H
     clear H
     go_wp2_with (first | ((with_reducible refine gate_callee (f := 47) rfl ?_); refine gl_ (some 17) Try.func47 #[.slice A0 l0.length c0, .slice A1 l1.length c1, .int .i64 x7_1] ?_; (with_reducible refine (cohousingref30_all.calls k1 _ _ l0 _ _ l1 x7_1 t298 _ ?side1 ?side2 ?side3 ?side4 A5.out).mono ?_); (case side1 => exact cc_ ((Kd.C_below HR0.out HB.out))); (case side2 => exact HC0.out); (case side3 => exact cc_ ((Kd.C_below HR1.out HB.out))); (case side4 => exact HC1.out); rintro e w9 ⟨v299, rfl, ho0, hb⟩; refine ⟨_, rfl, ?_⟩; have n0_ := Aside0.mk (Kd.S_lower ho0 (below_size (bb_ HB))); have n1_ := Aside0.mk (below_step (bb_ HB) hb); clear HB; have HO300 := n0_; have HB := n1_; clear n0_ n1_; (try clear hb); (try clear hb2); (try clear hk); (try clear hi); (try clear ho0); obtain ⟨Ao10, co10, eo10⟩ := Kd.S_slice HO300.out; subst eo10))
     go_roundg k1
     case measure => have := HK1.out; omega
     case rel => exact ⟨(wrap64 (x7_1 + 1)), sd_, H', ⟨by have := HK1.out; omega⟩, ⟨by repeat (first | (with_reducible first | exact HB.out | apply below_alloc | apply pw_below_drewN | apply below_drew1) | exact HB.out)⟩⟩
   ·rw [if_neg c4] at H
    have c4b0 : decide (x7_1 ≤ a2) = false := decide_eq_false c4
    clear c4
    obtain rfl := Option.some.inj H
    go_wp2
    go_ret
    exact ⟨_, ew_, by first | exact Kd.S_nil _ _ _ _ _ | exact Kd.N_nil _ _ _ _ _ | exact Kd.V_nil _ _ _ _ _ | exact Kd.Q_nil _ _ _ _ _ | exact Kd.R_nil _ _ _ _ _, by repeat (first | (with_reducible first | exact HB.out | apply below_alloc | apply pw_below_drewN | apply below_drew1) | exact HB.out)⟩
end
section
def cohousingref30_Explain.f (k : Nat) (l0 : List (S44)) (l1 : List (S46)) (a2 : Int) : Option (List Int × Bool × Int) := (cohousingref30_check.f k l0 l1 a2).bind fun t301 => (if t301 = 0 then ((cohousingref30_smallest.f k l0 l1 a2).bind fun t302 => (if (t302.length : Int) = 0 then (some (([] : List Int), false, 0)) else (if 0 < (t302.length : Int) then (some (rd_L3 t302 0, true, 0)) else (none)))) else (some (([] : List Int), false, t301)))
theorem cohousingref30_Explain.mono : ∀ a0 a1 a2 k, LeO (cohousingref30_Explain.f k a0 a1 a2) (cohousingref30_Explain.f (k + 1) a0 a1 a2) := by
 intro a0 a1 a2 k
 unfold cohousingref30_Explain.f
 repeat' first
   | (with_reducible exact cohousingref30_check.mono _ _ _ _)
   | (with_reducible exact cohousingref30_smallest.mono _ _ _ _)
   | (with_reducible exact LeO.refl _)
   | (with_reducible exact LeO.none _)
   | (with_reducible refine LeO.ite ?_ ?_)
   | (with_reducible refine LeO.bind ?_ (fun _ => ?_))
   | exact cohousingref30_check.mono _ _ _ _
   | exact cohousingref30_smallest.mono _ _ _ _
   | exact LeO.none _
   | refine LeO.ite ?_ ?_
   | refine LeO.bind ?_ (fun _ => ?_)
theorem cohousingref30_Explain.calls (k : Nat) (A0 : Option Addr) (c0 : Nat) (l0 : List (S44)) (A1 : Option Addr) (c1 : Nat) (l1 : List (S46)) (a2 : Int) (r1 : List Int) (r2 : Bool) (r3 : Int) (w : World) (hr0 : Kd.C k44 w A0 l0.length l0) (hc0 : l0.length ≤ c0) (hr1 : Kd.C k46 w A1 l1.length l1) (hc1 : l1.length ≤ c1) (h : cohousingref30_Explain.f k l0 l1 a2 = some (r1, r2, r3)) :
  Calls Try.prog 14 #[.slice A0 l0.length c0, .slice A1 l1.length c1, .int .i64 a2] w fun e w' => ∃ v0_ : Value, e = .returned (.tuple #[v0_, .bool r2, .int .i64 r3]) ∧ Kd.R (Kd.int .i64) 3 w' w.heap.size (fun _ => True) v0_ r1 ∧ Below w.heap.size w w' := by
 have HR0 := Aside0.mk hr0
 have HC0 := Aside0.mk hc0
 clear hr0 hc0
 have HR1 := Aside0.mk hr1
 have HC1 := Aside0.mk hc1
 clear hr1 hc1
 have HB := Aside0.mk (Below.refl w.heap.size w)
 have H : ((cohousingref30_check.f k l0 l1 a2).bind fun t301 => (if t301 = 0 then ((cohousingref30_smallest.f k l0 l1 a2).bind fun t302 => (if (t302.length : Int) = 0 then (some (([] : List Int), false, 0)) else (if 0 < (t302.length : Int) then (some (rd_L3 t302 0, true, 0)) else (none)))) else (some (([] : List Int), false, t301)))) = some (r1, r2, r3) := h
 clear h
 replace H := Option.bind_eq_some_iff.mp H
 obtain ⟨t301, A40, H⟩ := H
 replace H : (if t301 = 0 then ((cohousingref30_smallest.f k l0 l1 a2).bind fun t302 => (if (t302.length : Int) = 0 then (some (([] : List Int), false, 0)) else (if 0 < (t302.length : Int) then (some (rd_L3 t302 0, true, 0)) else (none)))) else (some (([] : List Int), false, t301))) = some (r1, r2, r3) := H
 have A4 := Aside0.mk A40
 clear A40
 by_cases c5 : t301 = 0
 ·rw [if_pos c5] at H
  have c5b0 : (t301 == 0) = true := beq_iff_eq.mpr c5
  have c5b1 : (t301 != 0) = false := bne_eq_false_iff_eq.mpr c5
  clear c5
  replace H := Option.bind_eq_some_iff.mp H
  obtain ⟨t302, A60, H⟩ := H
  replace H : (if (t302.length : Int) = 0 then (some (([] : List Int), false, 0)) else (if 0 < (t302.length : Int) then (some (rd_L3 t302 0, true, 0)) else (none))) = some (r1, r2, r3) := H
  have A6 := Aside0.mk A60
  clear A60
  by_cases c7 : (t302.length : Int) = 0
  ·rw [if_pos c7] at H
   have c7b0 : ((t302.length : Int) == 0) = true := beq_iff_eq.mpr c7
   have c7b1 : ((t302.length : Int) != 0) = false := bne_eq_false_iff_eq.mpr c7
   clear c7
   simp only [Option.some.injEq, Prod.mk.injEq] at H
   obtain ⟨rfl, rfl, rfl⟩ := H
   go_enter Try.func14, Try.ntmps14
   go_wp2_with (first | ((with_reducible refine gate_callee (f := 28) rfl ?_); refine gl_ (some 14) Try.func28 #[.slice A0 l0.length c0, .slice A1 l1.length c1, .int .i64 a2] ?_; (with_reducible refine (cohousingref30_check.calls k _ _ l0 _ _ l1 a2 t301 _ ?side1 ?side2 ?side3 ?side4 A4.out).mono ?_); (case side1 => exact cc_ (HR0.out)); (case side2 => exact HC0.out); (case side3 => exact cc_ (HR1.out)); (case side4 => exact HC1.out); rintro e w8 ⟨rfl, hb⟩; refine ⟨_, rfl, ?_⟩; have n0_ := Aside0.mk (below_step (bb_ HB) hb); clear HB; have HB := n0_; clear n0_; (try clear hb); (try clear hb2); (try clear hk); (try clear hi)) | ((with_reducible refine gate_callee (f := 29) rfl ?_); refine gl_ (some 21) Try.func29 #[.slice A0 l0.length c0, .slice A1 l1.length c1, .int .i64 a2] ?_; (with_reducible refine (cohousingref30_smallest.calls k _ _ l0 _ _ l1 a2 t302 _ ?side1 ?side2 ?side3 ?side4 A6.out).mono ?_); (case side1 => exact cc_ ((Kd.C_below HR0.out HB.out))); (case side2 => exact HC0.out); (case side3 => exact cc_ ((Kd.C_below HR1.out HB.out))); (case side4 => exact HC1.out); rintro e w9 ⟨v303, rfl, ho0, hb⟩; refine ⟨_, rfl, ?_⟩; have n0_ := Aside0.mk (Kd.S_lower ho0 (below_size (bb_ HB))); have n1_ := Aside0.mk (below_step (bb_ HB) hb); clear HB; have HO304 := n0_; have HB := n1_; clear n0_ n1_; (try clear hb); (try clear hb2); (try clear hk); (try clear hi); (try clear ho0); obtain ⟨Ao10, co10, eo10⟩ := Kd.S_slice HO304.out; subst eo10))
   go_ret3
   exact ⟨_, ew_, by first | exact Kd.R_nil _ _ _ _ _ | exact Kd.N_nil _ _ _ _ _ | exact Kd.V_nil _ _ _ _ _ | exact Kd.Q_nil _ _ _ _ _ | exact Kd.S_nil _ _ _ _ _, by repeat (first | (with_reducible first | exact HB.out | apply below_alloc | apply pw_below_drewN | apply below_drew1) | exact HB.out)⟩
  ·rw [if_neg c7] at H
   have c7b0 : ((t302.length : Int) == 0) = false := beq_eq_false_iff_ne.mpr c7
   have c7b1 : ((t302.length : Int) != 0) = true := bne_iff_ne.mpr c7
   have c7b2 : ¬ (t302 = []) := fun h_ => c7 (by rw [h_]; rfl)
   by_cases c11 : 0 < (t302.length : Int)
   ·rw [if_pos c11] at H
    have c11b0 : decide (0 < (t302.length : Int)) = true := decide_eq_true c11
    have c11b1 : decide (0 < t302.length) = true := decide_eq_true (by omega)
    clear c11
    simp only [Option.some.injEq, Prod.mk.injEq] at H
    obtain ⟨rfl, rfl, rfl⟩ := H
    go_enter Try.func14, Try.ntmps14
    go_wp2_with (first | ((with_reducible refine gate_callee (f := 28) rfl ?_); refine gl_ (some 14) Try.func28 #[.slice A0 l0.length c0, .slice A1 l1.length c1, .int .i64 a2] ?_; (with_reducible refine (cohousingref30_check.calls k _ _ l0 _ _ l1 a2 t301 _ ?side1 ?side2 ?side3 ?side4 A4.out).mono ?_); (case side1 => exact cc_ (HR0.out)); (case side2 => exact HC0.out); (case side3 => exact cc_ (HR1.out)); (case side4 => exact HC1.out); rintro e w12 ⟨rfl, hb⟩; refine ⟨_, rfl, ?_⟩; have n0_ := Aside0.mk (below_step (bb_ HB) hb); clear HB; have HB := n0_; clear n0_; (try clear hb); (try clear hb2); (try clear hk); (try clear hi)) | ((with_reducible refine gate_callee (f := 29) rfl ?_); refine gl_ (some 21) Try.func29 #[.slice A0 l0.length c0, .slice A1 l1.length c1, .int .i64 a2] ?_; (with_reducible refine (cohousingref30_smallest.calls k _ _ l0 _ _ l1 a2 t302 _ ?side1 ?side2 ?side3 ?side4 A6.out).mono ?_); (case side1 => exact cc_ ((Kd.C_below HR0.out HB.out))); (case side2 => exact HC0.out); (case side3 => exact cc_ ((Kd.C_below HR1.out HB.out))); (case side4 => exact HC1.out); rintro e w13 ⟨v303, rfl, ho0, hb⟩; refine ⟨_, rfl, ?_⟩; have n0_ := Aside0.mk (Kd.S_lower ho0 (below_size (bb_ HB))); have n1_ := Aside0.mk (below_step (bb_ HB) hb); clear HB; have HO304 := n0_; have HB := n1_; clear n0_ n1_; (try clear hb); (try clear hb2); (try clear hk); (try clear hi); (try clear ho0); obtain ⟨Ao14, co14, eo14⟩ := Kd.S_slice HO304.out; subst eo14; have p305 : 0 ≤ (0 : Int) := (by omega); have q305 : 0 < (t302.length : Int) := od_; obtain ⟨ad305, A305_0, c305_0, e305, hx305_0, hl305_0, hi305_0⟩ := at_L3 (Kd.S_reads' HO304.out).2.2 0 p305 q305; cases e305; obtain ⟨ce305, hce305, hMe305, hcc305⟩ := Kd.S_get HO304.out [] 0 p305 (by first | exact q305 | exact od_ | (have e_ := (Kd.S_reads' HO304.out).1; omega)); obtain ⟨ve305_0, rfl, ge305_0⟩ := hMe305; have hv305_0 := hcc305 0 _ rfl; rw [Nat.add_zero, show ((Kd.slice 3 (Kd.int .i64))).sz = 1 from rfl, Nat.mul_one] at hv305_0; replace hv305_0 := Option.some.inj (hv305_0.symm.trans hx305_0); rw [hv305_0] at ge305_0; have HL305_0 := Aside0.mk (show Kd.R (Kd.int .i64) 3 _ _ _ _ (rd_L3 t302 0) from ge305_0); clear hv305_0 ge305_0; clear hcc305 hce305; have qi305 : (0 < t302.length) = True := eq_true (by omega); (try rw [show ((0 : Int)).toNat = 0 from rfl] at hx305_0); (try rw [Addr.add_zero'] at hx305_0); have HR305_0 := Aside0.mk hi305_0; have HC305_0 := Aside0.mk hl305_0; clear hi305_0 hl305_0; replace p305 := eq_true p305; replace q305 := eq_true q305))
    go_ret3
    exact ⟨_, ew_, by (with_reducible repeat (first | apply Kd.R_alloc | apply Kd.R_drewN | apply Kd.R_drew)); exact Kd.R_mono HL305_0.out (fun _ hk => trivial), by repeat (first | (with_reducible first | exact HB.out | apply below_alloc | apply pw_below_drewN | apply below_drew1) | exact HB.out)⟩
   ·rw [if_neg c11] at H
    exact absurd H (by simp)
 ·rw [if_neg c5] at H
  have c5b0 : (t301 == 0) = false := beq_eq_false_iff_ne.mpr c5
  have c5b1 : (t301 != 0) = true := bne_iff_ne.mpr c5
  simp only [Option.some.injEq, Prod.mk.injEq] at H
  obtain ⟨rfl, rfl, rfl⟩ := H
  go_enter Try.func14, Try.ntmps14
  go_wp2_with (first | ((with_reducible refine gate_callee (f := 28) rfl ?_); refine gl_ (some 14) Try.func28 #[.slice A0 l0.length c0, .slice A1 l1.length c1, .int .i64 a2] ?_; (with_reducible refine (cohousingref30_check.calls k _ _ l0 _ _ l1 a2 t301 _ ?side1 ?side2 ?side3 ?side4 A4.out).mono ?_); (case side1 => exact cc_ (HR0.out)); (case side2 => exact HC0.out); (case side3 => exact cc_ (HR1.out)); (case side4 => exact HC1.out); rintro e w15 ⟨rfl, hb⟩; refine ⟨_, rfl, ?_⟩; have n0_ := Aside0.mk (below_step (bb_ HB) hb); clear HB; have HB := n0_; clear n0_; (try clear hb); (try clear hb2); (try clear hk); (try clear hi)))
  go_ret3
  exact ⟨_, ew_, by first | exact Kd.R_nil _ _ _ _ _ | exact Kd.N_nil _ _ _ _ _ | exact Kd.V_nil _ _ _ _ _ | exact Kd.Q_nil _ _ _ _ _ | exact Kd.S_nil _ _ _ _ _, by repeat (first | (with_reducible first | exact HB.out | apply below_alloc | apply pw_below_drewN | apply below_drew1) | exact HB.out)⟩
end
section
def cohousingref30_Has.l0 : Nat → List Int → Int → Int → Option (Bool)
 | 0, _, _, _ => none
 | k + 1, x0, x1, x5 => if x5 < (x0.length : Int) then (if 0 ≤ x5 then (if (rd x0 x5) = x1 then (some true) else (cohousingref30_Has.l0 k x0 x1 (wrap64 (x5 + 1)))) else (none)) else (some false)
def cohousingref30_Has.f (k : Nat) (l0 : List Int) (a1 : Int) : Option (Bool) := cohousingref30_Has.l0 k l0 a1 0
theorem cohousingref30_Has.mono_l : ∀ k, (∀ y0 y1 y2, LeO (cohousingref30_Has.l0 k y0 y1 y2) (cohousingref30_Has.l0 (k + 1) y0 y1 y2))
 | 0 => fun _ _ _ r h => by simp [cohousingref30_Has.l0] at h
 | k + 1 => by
  have ih0 := cohousingref30_Has.mono_l k
  ·intro y0 y1 y2
   unfold cohousingref30_Has.l0
   repeat' first
   | (with_reducible exact ih0 _ _ _)
   | (with_reducible exact LeO.refl _)
   | (with_reducible exact LeO.none _)
   | (with_reducible refine LeO.ite ?_ ?_)
   | (with_reducible refine LeO.bind ?_ (fun _ => ?_))
   | exact ih0 _ _ _
   | exact LeO.none _
   | refine LeO.ite ?_ ?_
   | refine LeO.bind ?_ (fun _ => ?_)
theorem cohousingref30_Has.mono : ∀ a0 a1 k, LeO (cohousingref30_Has.f k a0 a1) (cohousingref30_Has.f (k + 1) a0 a1) := by
 intro a0 a1 k
 have ih0 := cohousingref30_Has.mono_l k
 unfold cohousingref30_Has.f
 repeat' first
   | (with_reducible exact ih0 _ _ _)
   | (with_reducible exact LeO.refl _)
   | (with_reducible exact LeO.none _)
   | (with_reducible refine LeO.ite ?_ ?_)
   | (with_reducible refine LeO.bind ?_ (fun _ => ?_))
   | exact ih0 _ _ _
   | exact LeO.none _
   | refine LeO.ite ?_ ?_
   | refine LeO.bind ?_ (fun _ => ?_)
theorem cohousingref30_Has.calls (k : Nat) (A0 : Option Addr) (c0 : Nat) (l0 : List Int) (a1 : Int) (r : Bool) (w : World) (hr0 : Kd.C (Kd.int .i64) w A0 l0.length l0) (hc0 : l0.length ≤ c0) (h : cohousingref30_Has.f k l0 a1 = some r) :
  Calls Try.prog 21 #[.slice A0 l0.length c0, .int .i64 a1] w fun e w' => e = .returned (.bool r) ∧ Drawn0 w w' := by
 have HR0 := Aside0.mk hr0
 have HC0 := Aside0.mk hc0
 clear hr0 hc0
 have H : (cohousingref30_Has.l0 k l0 a1 0) = some r := h
 clear h
 have H' := Aside0.mk H
 clear H
 go_enter Try.func21, Try.ntmps21
 go_wp2
 go_loopg [5] k (fun kq v5 w' => ∃ (x5_1 : Int), v5 = .int .i64 x5_1 ∧ Aside0 (cohousingref30_Has.l0 kq l0 a1 x5_1 = some r) ∧ Aside0 (kq ≤ k) ∧ Drawn0 w w')
 case atStart => exact ⟨(0), sd_, H', ⟨Nat.le_refl _⟩, by repeat (first | exact Drawn0.refl _ | apply Drawn0.step)⟩
 case round =>
  clear H'
  try clear c2
  try clear p2
  obtain ⟨x5_1, rfl, HA, HK1, ⟨m1, rfl⟩⟩ := hrel
  cases gk with
  | zero => exact absurd HA.out (by simp [cohousingref30_Has.l0])
  | succ k1 =>
   have H := HA.out
   clear HA
   simp only [cohousingref30_Has.l0] at H
   by_cases c3 : x5_1 < (l0.length : Int)
   ·rw [if_pos c3] at H
    have c3b0 : decide (x5_1 < (l0.length : Int)) = true := decide_eq_true c3
    clear c3
    by_cases c4 : 0 ≤ x5_1
    ·rw [if_pos c4] at H
     have c4b0 : decide (0 ≤ x5_1) = true := decide_eq_true c4
     clear c4
     by_cases c5 : (rd l0 x5_1) = a1
     ·rw [if_pos c5] at H
      have c5b0 : ((rd l0 x5_1) == a1) = true := beq_iff_eq.mpr c5
      have c5b1 : ((rd l0 x5_1) != a1) = false := bne_eq_false_iff_eq.mpr c5
      clear c5
      obtain rfl := Option.some.inj H
      have p306 : 0 ≤ (x5_1 : Int) := od_
      have q306 : x5_1 < (l0.length : Int) := od_
      obtain ⟨ad306, e306, hx306_0⟩ := Kd.at_int HR0.out x5_1 p306 q306
      cases e306
      replace p306 := eq_true p306
      replace q306 := eq_true q306
      go_wp2
      go_ret
      exact ⟨by first | rfl | (simp; done) | (simp [*]; done), by repeat (first | exact Drawn0.refl _ | apply Drawn0.step)⟩
     ·rw [if_neg c5] at H
      have c5b0 : ((rd l0 x5_1) == a1) = false := beq_eq_false_iff_ne.mpr c5
      have c5b1 : ((rd l0 x5_1) != a1) = true := bne_iff_ne.mpr c5
      have H' := Aside0.mk H
      clear H
      have p306 : 0 ≤ (x5_1 : Int) := od_
      have q306 : x5_1 < (l0.length : Int) := od_
      obtain ⟨ad306, e306, hx306_0⟩ := Kd.at_int HR0.out x5_1 p306 q306
      cases e306
      replace p306 := eq_true p306
      replace q306 := eq_true q306
      go_wp2
      go_roundg k1
      case measure => have := HK1.out; omega
      case rel => exact ⟨(wrap64 (x5_1 + 1)), sd_, H', ⟨by have := HK1.out; omega⟩, by repeat (first | exact Drawn0.refl _ | apply Drawn0.step)⟩
    ·rw [if_neg c4] at H
     exact absurd H (by simp)
   ·rw [if_neg c3] at H
    have c3b0 : decide (x5_1 < (l0.length : Int)) = false := decide_eq_false c3
    clear c3
    obtain rfl := Option.some.inj H
    go_wp2
    go_ret
    exact ⟨by first | rfl | (simp; done) | (simp [*]; done), by repeat (first | exact Drawn0.refl _ | apply Drawn0.step)⟩
end
end Go.Proofs.Ytolmjhpapidmhaa.P
end
