/- Part 5 of the base that the seat's proofs share: words, walks and plain laws. -/
import Derived.ArgAppend
import Derived.Below
import Derived.BigQuiet
import Derived.ChangeOld
import Derived.ChangeSlices
import Derived.Deep.AppendLies
import Derived.Deep.CutBlock
import Derived.Deep.DeepCutAuto
import Derived.Deep.Draws
import Derived.Deep.LoopGhost
import Derived.Deep.OwnRows
import Derived.Deep.QuietTactic
import Derived.Deep.RegionHeld3
import Derived.Deep.Slices
import Derived.KernelRfl
import Derived.Laws.BitsLemmas
import Derived.Laws.BytesArg
import Derived.Laws.IdiomCopy
import Derived.Laws.MakeOwn
import Derived.Laws.OwnMore
import Derived.Laws.Rows
import Derived.Laws.Slices
import Derived.Laws.StructEq
import Derived.Lib.AppendStr
import Derived.Lib.ConvBytes
import Derived.LoopIn
import Derived.LoopNIn
import Derived.Maps.AppendAt
import Derived.Maps.Own
import Derived.OpenShut
import Derived.OrdersHeld
import Derived.OwnWalk
import Derived.OwnWalkIn
import Derived.ProofKit
import Derived.RangeFuncBound
import Derived.RangeFuncCalls
import Derived.RangeFuncLeaves
import Derived.RangeFuncNested
import Derived.RowKit
import Derived.RowKit3
import Derived.ShutString
import Derived.SizedLaws
import Derived.Tactics
import Derived.TacticsInMore
import Derived.Test.YtbgchacafglcpaaProg
import Derived.WalkKit
import Derived.WideLaws
import Derived.Test.YtbgchacafglcpaaCMd
set_option linter.unusedVariables false
set_option linter.unusedSimpArgs false
section
namespace Go.Proofs.Ytbgchacafglcpaa.P
open Go.RowKit Go.Proofs.YtbgchacafglcpaaW.PrintWords Go.Proofs.YtbgchacafglcpaaW.PrintLast Go.Proofs.YtbgchacafglcpaaW.PrintMore
attribute [local go_sem] max2_int min2_int max_two min_two max_three min_three max_four min_four
set_option linter.unusedVariables false
set_option linter.unusedSimpArgs false
set_option maxHeartbeats 8000000
set_option maxRecDepth 100000
section
mutual
def cohousingref28_equation.l0 : Nat → List (S63) → List (S38) → Int → List Int → Int → Int → Int → Option ((List (S38)))
 | 0, _, _, _, _, _, _, _ => none
 | k + 1, x0, x1, x2, x3, x9, x10, x11 => if x11 < (x3.length : Int) then (if 0 ≤ x11 then (if 0 ≤ (rd x3 x11) then (if (rd x3 x11) < (x1.length : Int) then (cohousingref28_equation.l0 k x0 x1 x2 x3 (wrap64 (x9 + ((rd_T38 x1 (rd x3 x11)).f0))) (wrap64 (x10 + ((rd_T38 x1 (rd x3 x11)).f1))) (wrap64 (x11 + 1))) else (none)) else (none)) else (none)) else (if 0 ≤ x2 then (if x2 < (x1.length : Int) then (if x2 < (x0.length : Int) then ((cohousingref28_narrow.f ((rd_T38 x1 x2).f0) ((rd_T38 x1 x2).f1) x9 (wrap64 (x10 + ((rd_T63 x0 x2).f2)))).bind fun bt290 => (cohousingref28_equation.l1 k x0 x1 x2 x9 x10 ([] : List (S38)) 0 bt290.1 bt290.2)) else (none)) else (none)) else (none))
def cohousingref28_equation.l1 : Nat → List (S63) → List (S38) → Int → Int → Int → List (S38) → Int → Int → Int → Option ((List (S38)))
 | 0, _, _, _, _, _, _, _, _, _ => none
 | k + 1, x0, x1, x2, x9, x10, x13, x14, x293000, x293001 => if x14 < (x1.length : Int) then (if 0 ≤ x14 then (if x14 = x2 then (if x14 > x2 then (if x14 < (x0.length : Int) then (if 0 ≤ x2 then (if x2 < (x0.length : Int) then (if ((rd_T63 x0 x14).f1) = ((rd_T63 x0 x2).f0) then ((cohousingref28_narrow.f x293000 x293001 (wrap64 ((wrap64 (x293000 - ((rd_T63 x0 x2).f2))) - (wrap64 (x10 - x293001)))) (wrap64 (x293001 - (wrap64 (x9 - x293000))))).bind fun bt298 => (if x13.length < 8796093022208 then (cohousingref28_equation.l1 k x0 x1 x2 x9 x10 (x13 ++ [(⟨bt298.1, bt298.2⟩ : S38)]) (wrap64 (x14 + 1)) x293000 x293001) else (none))) else (if x13.length < 8796093022208 then (cohousingref28_equation.l1 k x0 x1 x2 x9 x10 (x13 ++ [(⟨x293000, x293001⟩ : S38)]) (wrap64 (x14 + 1)) x293000 x293001) else (none))) else (none)) else (none)) else (none)) else (if x13.length < 8796093022208 then (cohousingref28_equation.l1 k x0 x1 x2 x9 x10 (x13 ++ [(⟨x293000, x293001⟩ : S38)]) (wrap64 (x14 + 1)) x293000 x293001) else (none))) else (if x14 > x2 then (if x14 < (x0.length : Int) then (if 0 ≤ x2 then (if x2 < (x0.length : Int) then (if ((rd_T63 x0 x14).f1) = ((rd_T63 x0 x2).f0) then ((cohousingref28_narrow.f ((rd_T38 x1 x14).f0) ((rd_T38 x1 x14).f1) (wrap64 ((wrap64 (x293000 - ((rd_T63 x0 x2).f2))) - (wrap64 (x10 - ((rd_T38 x1 x14).f1))))) (wrap64 (x293001 - (wrap64 (x9 - ((rd_T38 x1 x14).f0)))))).bind fun bt312 => (if x13.length < 8796093022208 then (cohousingref28_equation.l1 k x0 x1 x2 x9 x10 (x13 ++ [(⟨bt312.1, bt312.2⟩ : S38)]) (wrap64 (x14 + 1)) x293000 x293001) else (none))) else (if x13.length < 8796093022208 then (cohousingref28_equation.l1 k x0 x1 x2 x9 x10 (x13 ++ [(⟨(rd_T38 x1 x14).f0, (rd_T38 x1 x14).f1⟩ : S38)]) (wrap64 (x14 + 1)) x293000 x293001) else (none))) else (none)) else (none)) else (none)) else (if x13.length < 8796093022208 then (cohousingref28_equation.l1 k x0 x1 x2 x9 x10 (x13 ++ [(⟨(rd_T38 x1 x14).f0, (rd_T38 x1 x14).f1⟩ : S38)]) (wrap64 (x14 + 1)) x293000 x293001) else (none)))) else (none)) else (some x13)
end
def cohousingref28_equation.f (k : Nat) (l0 : List (S63)) (l1 : List (S38)) (a2 : Int) (l3 : List Int) : Option ((List (S38))) := cohousingref28_equation.l0 k l0 l1 a2 l3 0 0 0
theorem cohousingref28_equation.mono_l : ∀ k, (∀ y0 y1 y2 y3 y4 y5 y6, LeO (cohousingref28_equation.l0 k y0 y1 y2 y3 y4 y5 y6) (cohousingref28_equation.l0 (k + 1) y0 y1 y2 y3 y4 y5 y6)) ∧ (∀ y0 y1 y2 y3 y4 y5 y6 y7 y8, LeO (cohousingref28_equation.l1 k y0 y1 y2 y3 y4 y5 y6 y7 y8) (cohousingref28_equation.l1 (k + 1) y0 y1 y2 y3 y4 y5 y6 y7 y8))
 | 0 => ⟨fun _ _ _ _ _ _ _ r h => by simp [cohousingref28_equation.l0] at h, fun _ _ _ _ _ _ _ _ _ r h => by simp [cohousingref28_equation.l1] at h⟩
 | k + 1 => by
  obtain ⟨ih0, ih1⟩ := cohousingref28_equation.mono_l k
  refine ⟨?_, ?_⟩
  ·intro y0 y1 y2 y3 y4 y5 y6
   unfold cohousingref28_equation.l0
   repeat' first
   | (with_reducible exact ih0 _ _ _ _ _ _ _)
   | (with_reducible exact ih1 _ _ _ _ _ _ _ _ _)
   | (with_reducible exact LeO.refl _)
   | (with_reducible exact LeO.none _)
   | (with_reducible refine LeO.ite ?_ ?_)
   | (with_reducible refine LeO.bind ?_ (fun _ => ?_))
   | exact ih0 _ _ _ _ _ _ _
   | exact ih1 _ _ _ _ _ _ _ _ _
   | exact LeO.none _
   | refine LeO.ite ?_ ?_
   | refine LeO.bind ?_ (fun _ => ?_)
  ·intro y0 y1 y2 y3 y4 y5 y6 y7 y8
   unfold cohousingref28_equation.l1
   repeat' first
   | (with_reducible exact ih0 _ _ _ _ _ _ _)
   | (with_reducible exact ih1 _ _ _ _ _ _ _ _ _)
   | (with_reducible exact LeO.refl _)
   | (with_reducible exact LeO.none _)
   | (with_reducible refine LeO.ite ?_ ?_)
   | (with_reducible refine LeO.bind ?_ (fun _ => ?_))
   | exact ih0 _ _ _ _ _ _ _
   | exact ih1 _ _ _ _ _ _ _ _ _
   | exact LeO.none _
   | refine LeO.ite ?_ ?_
   | refine LeO.bind ?_ (fun _ => ?_)
theorem cohousingref28_equation.mono : ∀ a0 a1 a2 a3 k, LeO (cohousingref28_equation.f k a0 a1 a2 a3) (cohousingref28_equation.f (k + 1) a0 a1 a2 a3) := by
 intro a0 a1 a2 a3 k
 obtain ⟨ih0, ih1⟩ := cohousingref28_equation.mono_l k
 unfold cohousingref28_equation.f
 repeat' first
   | (with_reducible exact ih0 _ _ _ _ _ _ _)
   | (with_reducible exact ih1 _ _ _ _ _ _ _ _ _)
   | (with_reducible exact LeO.refl _)
   | (with_reducible exact LeO.none _)
   | (with_reducible refine LeO.ite ?_ ?_)
   | (with_reducible refine LeO.bind ?_ (fun _ => ?_))
   | exact ih0 _ _ _ _ _ _ _
   | exact ih1 _ _ _ _ _ _ _ _ _
   | exact LeO.none _
   | refine LeO.ite ?_ ?_
   | refine LeO.bind ?_ (fun _ => ?_)
def cohousingref28_equation.T8 : Bool × List (List Nat × List Nat) := (true, [([], []), ([], []), ([0, 1], [0, 1]), ([2], [2]), ([], []), ([], []), ([], []), ([], []), ([6, 7], [6, 7]), ([8], [8]), ([9], [9]), ([5, 10], [5, 10]), ([3, 4, 11], [3, 4, 11]), ([], []), ([13, 12, 12, 0, 1, 2, 3, 4, 5, 6, 7, 8, 9, 10, 11, 12, 13], [12, 13])])
def cohousingref28_equation.B8 : List Nat := [0, 0, 3, 7, 0, 0, 0, 0, 192, 448, 960, 2016, 4095, 0, 16383]
theorem cohousingref28_equation.tab8 : rtab .any (opsOf Try.f95 8) = cohousingref28_equation.T8 := by kernel_rfl
theorem cohousingref28_equation.bits8 : waitsOk cohousingref28_equation.T8.2 cohousingref28_equation.B8 = true := by kernel_rfl
def cohousingref28_equation.T16 : Bool × List (List Nat × List Nat) := (true, [([], []), ([], []), ([0, 1], [0, 1]), ([2], [2]), ([3], [3]), ([3], [3]), ([4, 5, 3], [3, 4, 5]), ([6, 3], [3, 6]), ([7, 3], [3, 7]), ([3], [3]), ([3], [3]), ([9, 10, 3], [3, 9, 10]), ([11, 3], [3, 11]), ([12, 3], [3, 12]), ([8, 13, 3], [3, 8, 13]), ([3, 14], [3, 14])])
def cohousingref28_equation.B16 : List Nat := [0, 0, 3, 7, 15, 15, 63, 127, 255, 15, 15, 1551, 3599, 7695, 16383, 32767]
theorem cohousingref28_equation.tab16 : rtab .any (opsOf Try.f95 16) = cohousingref28_equation.T16 := by kernel_rfl
theorem cohousingref28_equation.bits16 : waitsOk cohousingref28_equation.T16.2 cohousingref28_equation.B16 = true := by kernel_rfl
def cohousingref28_equation.T17 : Bool × List (List Nat × List Nat) := (true, [([], []), ([], []), ([1], [1]), ([], []), ([], []), ([3, 4], [3, 4]), ([5], [5]), ([6], [6]), ([2, 7], [2, 7]), ([], []), ([], []), ([10], [10]), ([9, 11], [9, 11]), ([8, 12], [8, 12]), ([], []), ([14], [14]), ([], []), ([], []), ([17], [17]), ([16, 18], [16, 18]), ([15, 19], [15, 19]), ([0, 13, 20], [0, 13, 20]), ([21, 21, 0, 1, 2, 3, 4, 5, 6, 7, 8, 9, 10, 11, 12, 13, 14, 15, 16, 17, 18, 19, 20, 21], [21])])
def cohousingref28_equation.B17 : List Nat := [0, 0, 2, 0, 0, 24, 56, 120, 254, 0, 0, 1024, 3584, 8190, 0, 16384, 0, 0, 131072, 458752, 1032192, 2097151, 4194303]
theorem cohousingref28_equation.tab17 : rtab .any (opsOf Try.f95 17) = cohousingref28_equation.T17 := by kernel_rfl
theorem cohousingref28_equation.bits17 : waitsOk cohousingref28_equation.T17.2 cohousingref28_equation.B17 = true := by kernel_rfl
theorem cohousingref28_equation.calls (k : Nat) (A0 : Option Addr) (c0 : Nat) (l0 : List (S63)) (A1 : Option Addr) (c1 : Nat) (l1 : List (S38)) (a2 : Int) (A3 : Option Addr) (c3 : Nat) (l3 : List Int) (r : List (S38)) (w : World) (hr0 : Kd.C k63 w A0 l0.length l0) (hc0 : l0.length ≤ c0) (hr1 : Kd.C k38 w A1 l1.length l1) (hc1 : l1.length ≤ c1) (hr3 : Kd.C (Kd.int .i64) w A3 l3.length l3) (hc3 : l3.length ≤ c3) (h : cohousingref28_equation.f k l0 l1 a2 l3 = some r) :
  Calls Try.prog 95 #[.slice A0 l0.length c0, .slice A1 l1.length c1, .int .i64 a2, .slice A3 l3.length c3] w fun e w' => ∃ v0_ : Value, e = .returned (v0_) ∧ Kd.R k38 38 w' w.heap.size (fun _ => True) v0_ r ∧ Below w.heap.size w w' := by
 have hu38 := Try.underlying38
 have HR0 := Aside0.mk hr0
 have HC0 := Aside0.mk hc0
 clear hr0 hc0
 have HR1 := Aside0.mk hr1
 have HC1 := Aside0.mk hc1
 clear hr1 hc1
 have HR3 := Aside0.mk hr3
 have HC3 := Aside0.mk hc3
 clear hr3 hc3
 have HB := Aside0.mk (Below.refl w.heap.size w)
 have H : (cohousingref28_equation.l0 k l0 l1 a2 l3 0 0 0) = some r := h
 clear h
 have H' := Aside0.mk H
 clear H
 go_enter Try.func95, Try.ntmps95
 go_wp2
 go_loopg [9, 10, 11] k (fun kq v9 v10 v11 w' => ∃ (x9_1 : Int) (x10_1 : Int) (x11_1 : Int), v9 = .int .i64 x9_1 ∧ v10 = .int .i64 x10_1 ∧ v11 = .int .i64 x11_1 ∧ Aside0 (cohousingref28_equation.l0 kq l0 l1 a2 l3 x9_1 x10_1 x11_1 = some r) ∧ Aside0 (kq ≤ k) ∧ Aside0 (Below w.heap.size w w'))
 case atStart => exact ⟨(0), (0), (0), sd_, sd_, sd_, H', ⟨Nat.le_refl _⟩, ⟨by repeat (first | (with_reducible first | exact HB.out | apply below_alloc | apply pw_below_drewN | apply below_drew1) | exact HB.out)⟩⟩
 case round =>
  clear H'
  try clear c1
  try clear p2
  try clear c3
  obtain ⟨x9_1, x10_1, x11_1, rfl, rfl, rfl, HA, HK1, HB⟩ := hrel
  cases gk with
  | zero => exact absurd HA.out (by simp [cohousingref28_equation.l0])
  | succ k1 =>
   have H := HA.out
   clear HA
   simp only [cohousingref28_equation.l0] at H
   by_cases c5 : x11_1 < (l3.length : Int)
   ·rw [if_pos c5] at H
    have c5b0 : decide (x11_1 < (l3.length : Int)) = true := decide_eq_true c5
    clear c5
    by_cases c6 : 0 ≤ x11_1
    ·rw [if_pos c6] at H
     have c6b0 : decide (0 ≤ x11_1) = true := decide_eq_true c6
     clear c6
     by_cases c7 : 0 ≤ (rd l3 x11_1)
     ·rw [if_pos c7] at H
      have c7b0 : decide (0 ≤ (rd l3 x11_1)) = true := decide_eq_true c7
      clear c7
      by_cases c8 : (rd l3 x11_1) < (l1.length : Int)
      ·rw [if_pos c8] at H
       have c8b0 : decide ((rd l3 x11_1) < (l1.length : Int)) = true := decide_eq_true c8
       clear c8
       have H' := Aside0.mk H
       clear H
       have p284 : 0 ≤ (x11_1 : Int) := od_
       have q284 : x11_1 < (l3.length : Int) := od_
       obtain ⟨ad284, e284, hx284_0⟩ := Kd.at_int HR3.out x11_1 p284 q284
       cases e284
       replace hx284_0 := (HB.out.cell (World.block_lt_of_cell? w _ hx284_0)).trans hx284_0
       replace p284 := eq_true p284
       replace q284 := eq_true q284
       have p285 : 0 ≤ ((rd l3 x11_1) : Int) := od_
       have q285 : (rd l3 x11_1) < (l1.length : Int) := od_
       obtain ⟨ad285, e285, hx285_0, hx285_1⟩ := at_T38 HR1.out (rd l3 x11_1) p285 q285
       cases e285
       replace hx285_0 := (HB.out.cell (World.block_lt_of_cell? w _ hx285_0)).trans hx285_0
       replace hx285_1 := (HB.out.cell (World.block_lt_of_cell? w _ hx285_1)).trans hx285_1
       replace p285 := eq_true p285
       replace q285 := eq_true q285
       have p286 : 0 ≤ (x11_1 : Int) := od_
       have q286 : x11_1 < (l3.length : Int) := od_
       obtain ⟨ad286, e286, hx286_0⟩ := Kd.at_int HR3.out x11_1 p286 q286
       obtain rfl : ad284 = ad286 := (by injection e286)
       replace hx286_0 := (HB.out.cell (World.block_lt_of_cell? w _ hx286_0)).trans hx286_0
       replace p286 := eq_true p286
       replace q286 := eq_true q286
       have p287 : 0 ≤ ((rd l3 x11_1) : Int) := od_
       have q287 : (rd l3 x11_1) < (l1.length : Int) := od_
       obtain ⟨ad287, e287, hx287_0, hx287_1⟩ := at_T38 HR1.out (rd l3 x11_1) p287 q287
       obtain rfl : ad285 = ad287 := (by injection e287)
       replace hx287_0 := (HB.out.cell (World.block_lt_of_cell? w _ hx287_0)).trans hx287_0
       replace hx287_1 := (HB.out.cell (World.block_lt_of_cell? w _ hx287_1)).trans hx287_1
       replace p287 := eq_true p287
       replace q287 := eq_true q287
       go_wp2
       go_roundg k1
       case measure => have := HK1.out; omega
       case rel => exact ⟨(wrap64 (x9_1 + ((rd_T38 l1 (rd l3 x11_1)).f0))), (wrap64 (x10_1 + ((rd_T38 l1 (rd l3 x11_1)).f1))), (wrap64 (x11_1 + 1)), sd_, sd_, sd_, H', ⟨by have := HK1.out; omega⟩, ⟨by repeat (first | (with_reducible first | exact HB.out | apply below_alloc | apply pw_below_drewN | apply below_drew1) | exact HB.out)⟩⟩
      ·rw [if_neg c8] at H
       exact absurd H (by simp)
     ·rw [if_neg c7] at H
      exact absurd H (by simp)
    ·rw [if_neg c6] at H
     exact absurd H (by simp)
   ·rw [if_neg c5] at H
    have c5b0 : decide (x11_1 < (l3.length : Int)) = false := decide_eq_false c5
    clear c5
    by_cases c9 : 0 ≤ a2
    ·rw [if_pos c9] at H
     have c9b0 : decide (0 ≤ a2) = true := decide_eq_true c9
     clear c9
     by_cases c10 : a2 < (l1.length : Int)
     ·rw [if_pos c10] at H
      have c10b0 : decide (a2 < (l1.length : Int)) = true := decide_eq_true c10
      clear c10
      by_cases c11 : a2 < (l0.length : Int)
      ·rw [if_pos c11] at H
       have c11b0 : decide (a2 < (l0.length : Int)) = true := decide_eq_true c11
       clear c11
       replace H := Option.bind_eq_some_iff.mp H
       obtain ⟨⟨t290, t291⟩, A120, H⟩ := H
       replace H : (cohousingref28_equation.l1 k1 l0 l1 a2 x9_1 x10_1 ([] : List (S38)) 0 t290 t291) = some r := H
       have A12 := Aside0.mk A120
       clear A120
       have H' := Aside0.mk H
       clear H
       try go_wp2
       have n0_ := Aside0.mk (below_drew1 HB.out)
       clear HB
       have HB := n0_
       clear n0_
       have p288 : 0 ≤ (a2 : Int) := od_
       have q288 : a2 < (l1.length : Int) := od_
       obtain ⟨ad288, e288, hx288_0, hx288_1⟩ := at_T38 HR1.out a2 p288 q288
       have hw288_1 := hx288_1
       have hw288_0 := hx288_0
       cases e288
       replace hx288_0 := (HB.out.cell (World.block_lt_of_cell? w _ hx288_0)).trans hx288_0
       replace hx288_1 := (HB.out.cell (World.block_lt_of_cell? w _ hx288_1)).trans hx288_1
       replace p288 := eq_true p288
       replace q288 := eq_true q288
       have p289 : 0 ≤ (a2 : Int) := od_
       have q289 : a2 < (l0.length : Int) := od_
       obtain ⟨ad289, e289, hx289_0, hx289_1, hx289_2⟩ := at_T63 HR0.out a2 p289 q289
       have hw289_2 := hx289_2
       have hw289_1 := hx289_1
       have hw289_0 := hx289_0
       cases e289
       replace hx289_0 := (HB.out.cell (World.block_lt_of_cell? w _ hx289_0)).trans hx289_0
       replace hx289_1 := (HB.out.cell (World.block_lt_of_cell? w _ hx289_1)).trans hx289_1
       replace hx289_2 := (HB.out.cell (World.block_lt_of_cell? w _ hx289_2)).trans hx289_2
       replace p289 := eq_true p289
       replace q289 := eq_true q289
       refine start_ (n := 15) (S := fun w' => w'.cell? (ad288.add ((a2).toNat * 2)) = some (.int .i64 ((rd_T38 l1 a2).f0)) ∧ w'.cell? ⟨(ad288.add ((a2).toNat * 2)).block, (ad288.add ((a2).toNat * 2)).off + 1, none⟩ = some (.int .i64 ((rd_T38 l1 a2).f1)) ∧ w'.cell? (ad289.add ((a2).toNat * 3)) = some (.int .i64 ((rd_T63 l0 a2).f0)) ∧ w'.cell? ⟨(ad289.add ((a2).toNat * 3)).block, (ad289.add ((a2).toNat * 3)).off + 1, none⟩ = some (.int .i64 ((rd_T63 l0 a2).f1)) ∧ w'.cell? ⟨(ad289.add ((a2).toNat * 3)).block, (ad289.add ((a2).toNat * 3)).off + 2, none⟩ = some (.int .i64 ((rd_T63 l0 a2).f2))) (ds := []) #[n_, n_, n_, n_, n_, n_, n_, n_, n_, n_, n_, n_, n_, n_, n_] (by kernel_rfl) rfl rfl ⟨((HB.out.cell (World.block_lt_of_cell? w _ hw288_0)).trans hw288_0), ((HB.out.cell (World.block_lt_of_cell? w _ hw288_1)).trans hw288_1), ((HB.out.cell (World.block_lt_of_cell? w _ hw289_0)).trans hw289_0), ((HB.out.cell (World.block_lt_of_cell? w _ hw289_1)).trans hw289_1), ((HB.out.cell (World.block_lt_of_cell? w _ hw289_2)).trans hw289_2)⟩ (fun hHeld => ?_); refine with_tabW cohousingref28_equation.tab8 cohousingref28_equation.bits8 (fun HT_ HW_ => ?_)
       generalize wr.drew = w13 at HB hx288_0 hx288_1 hx289_0 hx289_1 hx289_2 hHeld ⊢
       refine pu_ 0 42 (w_ 15 1) rfl HT_ ?_
       refine pu_ 1 43 (w_ 15 3) rfl HT_ ?_
       refine pu_ 2 44 (w_ 15 7) rfl HT_ ?_
       refine pu_ 4 46 (w_ 15 23) rfl HT_ ?_
       refine pu_ 5 47 (w_ 15 55) rfl HT_ ?_
       refine pu_ 6 48 (w_ 15 119) rfl HT_ ?_
       refine pu_ 7 49 (w_ 15 247) rfl HT_ ?_
       refine pu_ 8 50 (w_ 15 503) rfl HT_ ?_
       refine pu_ 9 51 (w_ 15 1015) rfl HT_ ?_
       refine ta_ 3 45 (w_ 15 1023) rfl HT_ HW_ hHeld (by rintro w' ⟨s0, s1, s2, s3, s4⟩; go_simp; with_reducible rfl) ?_
       refine ta_ 10 52 (w_ 15 2047) rfl HT_ HW_ hHeld (by rintro w' ⟨s0, s1, s2, s3, s4⟩; go_simp; with_reducible rfl) ?_
       refine pu_ 11 53 (w_ 15 4095) rfl HT_ ?_
       refine join_ (σ := Nat) 1 #[y_, y_, y_, y_, y_, y_, y_, y_, y_, y_, y_, y_, y_, y_, n_] (fun s_ => [(54, .agg #[.int .i64 t290, .int .i64 t291]), (12, .pointer (some ⟨s_, 0, none⟩))]) (fun s_ w' => (w'.cell? (ad288.add ((a2).toNat * 2)) = some (.int .i64 ((rd_T38 l1 a2).f0)) ∧ w'.cell? ⟨(ad288.add ((a2).toNat * 2)).block, (ad288.add ((a2).toNat * 2)).off + 1, none⟩ = some (.int .i64 ((rd_T38 l1 a2).f1)) ∧ w'.cell? (ad289.add ((a2).toNat * 3)) = some (.int .i64 ((rd_T63 l0 a2).f0)) ∧ w'.cell? ⟨(ad289.add ((a2).toNat * 3)).block, (ad289.add ((a2).toNat * 3)).off + 1, none⟩ = some (.int .i64 ((rd_T63 l0 a2).f1)) ∧ w'.cell? ⟨(ad289.add ((a2).toNat * 3)).block, (ad289.add ((a2).toNat * 3)).off + 2, none⟩ = some (.int .i64 ((rd_T63 l0 a2).f2))) ∧ (w'.heap[s_]? = some (.cells #[.int .i64 0, .int .i64 0] 38 (0, 0))) ∧ (w.heap.size ≤ s_) ∧ (w.heap.size ≤ s_) ∧ (Below w.heap.size w w')) ?_ ?_
       rotate_left
       ·intro hCont
        refine two_ (i := 12) (j := 13) (Ni := some 54) (Nj := some 12) #[y_, y_, y_, y_, y_, y_, y_, y_, y_, y_, y_, y_, y_, n_, n_] #[y_, y_, y_, y_, y_, y_, y_, y_, y_, y_, y_, y_, n_, y_, n_] rfl rfl rfl rfl (two_of HT_.out (by kernel_rfl)) (by decide) (by decide) (fun K hK => ?_) (fun K hK => ?_)
        ·skip
         refine goes_ Try.func96 (by kernel_rfl) rfl #[.agg #[.int .i64 ((rd_T38 l1 a2).f0), .int .i64 ((rd_T38 l1 a2).f1)], .int .i64 x9_1, .int .i64 (wrap64 (x10_1 + ((rd_T63 l0 a2).f2)))] (by rfl) rfl rfl (by (try simp only [List.map_toArray, List.map_cons, List.map_nil]); first | done | rfl | (simp only [List.length_drop, List.length_take]; rfl)) ?_
         with_reducible refine (cohousingref28_narrow.calls ((rd_T38 l1 a2).f0) ((rd_T38 l1 a2).f1) x9_1 (wrap64 (x10_1 + ((rd_T63 l0 a2).f2))) t290 t291 _ A12.out).mono ?_
         rintro e w14 ⟨rfl, hb⟩
         refine ⟨_, rfl, ?_⟩
         have n0_ := Aside0.mk (below_step (bb_ HB) hb)
         clear HB
         have HB := n0_
         clear n0_
         (try clear hb)
         (try clear hb2)
         (try clear hk)
         (try clear hi)
         refine hK.out _ _ ⟨((HB.out.cell (World.block_lt_of_cell? w _ hw288_0)).trans hw288_0), ((HB.out.cell (World.block_lt_of_cell? w _ hw288_1)).trans hw288_1), ((HB.out.cell (World.block_lt_of_cell? w _ hw289_0)).trans hw289_0), ((HB.out.cell (World.block_lt_of_cell? w _ hw289_1)).trans hw289_1), ((HB.out.cell (World.block_lt_of_cell? w _ hw289_2)).trans hw289_2)⟩ (fun hHeld => ?_)
         clear hK K
         refine norm_ (a' := ?_) ?_ ?_
         rotate_left
         ·show Act.put _ (some 54) _ = _
          simp only [Act.put, sI_, s0_, sS_, i64_w, i32_w]
          rfl
         refine one_ (i := 13) (N := some 12) (w_ 15 16383) rfl rfl (one_of HT_.out (by kernel_rfl)) (by decide) (fun K hK => ?_)
         refine box_step ?hg (N := 12) ?hd (cs := #[.int .i64 0, .int .i64 0]) (t := 38) ?hr ?_; (case hd => rfl); (case hg => rfl); (case hr => first | (go_simp; done) | (go_simp; rfl))
         intro gb292 hg w15 hbox hb
         have n0_ := Aside0.mk (below_step (bb_ HB) hb)
         have n1_ := Aside0.mk (hbox)
         have n2_ := Aside0.mk ((by rw [hg]; exact (below_size (bb_ HB)) : w.heap.size ≤ gb292))
         have n3_ := Aside0.mk ((by rw [hg]; exact (below_size (bb_ HB)) : w.heap.size ≤ gb292))
         clear HB
         have HB := n0_
         have BK292 := n1_
         have GW292 := n2_
         have GE292 := n3_
         clear n0_ n1_ n2_ n3_
         clear hb hbox hg
         refine hK.out _ _ ⟨((HB.out.cell (World.block_lt_of_cell? w _ hw288_0)).trans hw288_0), ((HB.out.cell (World.block_lt_of_cell? w _ hw288_1)).trans hw288_1), ((HB.out.cell (World.block_lt_of_cell? w _ hw289_0)).trans hw289_0), ((HB.out.cell (World.block_lt_of_cell? w _ hw289_1)).trans hw289_1), ((HB.out.cell (World.block_lt_of_cell? w _ hw289_2)).trans hw289_2)⟩ (fun hHeld => ?_)
         clear hK K
         refine norm_ (a' := ?_) ?_ ?_
         rotate_left
         ·show Act.put _ (some 12) _ = _
          simp only [Act.put, sI_, s0_, sS_, i64_w, i32_w]
          rfl
         exact norm_ (by simp only [putAll, Act.put, sI_, s0_, sS_]) (hCont (gb292) _ ⟨hHeld, (kk_ BK292), GW292.out, GE292.out, (bs_ HB GE292.out)⟩)
        ·skip
         refine box_step ?hg (N := 12) ?hd (cs := #[.int .i64 0, .int .i64 0]) (t := 38) ?hr ?_; (case hd => rfl); (case hg => rfl); (case hr => first | (go_simp; done) | (go_simp; rfl))
         intro gb292 hg w14 hbox hb
         have n0_ := Aside0.mk (below_step (bb_ HB) hb)
         have n1_ := Aside0.mk (hbox)
         have n2_ := Aside0.mk ((by rw [hg]; exact (below_size (bb_ HB)) : w.heap.size ≤ gb292))
         have n3_ := Aside0.mk ((by rw [hg]; exact (below_size (bb_ HB)) : w.heap.size ≤ gb292))
         clear HB
         have HB := n0_
         have BK292 := n1_
         have GW292 := n2_
         have GE292 := n3_
         clear n0_ n1_ n2_ n3_
         clear hb hbox hg
         refine hK.out _ _ ⟨((HB.out.cell (World.block_lt_of_cell? w _ hw288_0)).trans hw288_0), ((HB.out.cell (World.block_lt_of_cell? w _ hw288_1)).trans hw288_1), ((HB.out.cell (World.block_lt_of_cell? w _ hw289_0)).trans hw289_0), ((HB.out.cell (World.block_lt_of_cell? w _ hw289_1)).trans hw289_1), ((HB.out.cell (World.block_lt_of_cell? w _ hw289_2)).trans hw289_2)⟩ (fun hHeld => ?_)
         clear hK K
         refine norm_ (a' := ?_) ?_ ?_
         rotate_left
         ·show Act.put _ (some 12) _ = _
          simp only [Act.put, sI_, s0_, sS_, i64_w, i32_w]
          rfl
         refine one_ (i := 12) (N := some 54) (w_ 15 16383) rfl rfl (one_of HT_.out (by kernel_rfl)) (by decide) (fun K hK => ?_)
         refine goes_ Try.func96 (by kernel_rfl) rfl #[.agg #[.int .i64 ((rd_T38 l1 a2).f0), .int .i64 ((rd_T38 l1 a2).f1)], .int .i64 x9_1, .int .i64 (wrap64 (x10_1 + ((rd_T63 l0 a2).f2)))] (by rfl) rfl rfl (by (try simp only [List.map_toArray, List.map_cons, List.map_nil]); first | done | rfl | (simp only [List.length_drop, List.length_take]; rfl)) ?_
         with_reducible refine (cohousingref28_narrow.calls ((rd_T38 l1 a2).f0) ((rd_T38 l1 a2).f1) x9_1 (wrap64 (x10_1 + ((rd_T63 l0 a2).f2))) t290 t291 _ A12.out).mono ?_
         rintro e w15 ⟨rfl, hb⟩
         refine ⟨_, rfl, ?_⟩
         have n0_ := Aside0.mk (blk_below (g := gb292) (o := .cells #[.int .i64 0, .int .i64 0] 38 (0, 0)) (kk_ BK292) hb)
         have n1_ := Aside0.mk (below_step (bs_ HB GE292.out) hb)
         clear BK292
         clear HB
         have BK292 := n0_
         have HB := n1_
         clear n0_ n1_
         (try clear hb)
         (try clear hb2)
         (try clear hk)
         (try clear hi)
         refine hK.out _ _ ⟨((HB.out.cell (World.block_lt_of_cell? w _ hw288_0)).trans hw288_0), ((HB.out.cell (World.block_lt_of_cell? w _ hw288_1)).trans hw288_1), ((HB.out.cell (World.block_lt_of_cell? w _ hw289_0)).trans hw289_0), ((HB.out.cell (World.block_lt_of_cell? w _ hw289_1)).trans hw289_1), ((HB.out.cell (World.block_lt_of_cell? w _ hw289_2)).trans hw289_2)⟩ (fun hHeld => ?_)
         clear hK K
         refine norm_ (a' := ?_) ?_ ?_
         rotate_left
         ·show Act.put _ (some 54) _ = _
          simp only [Act.put, sI_, s0_, sS_, i64_w, i32_w]
          rfl
         exact norm_ (by simp only [putAll, Act.put, sI_, s0_, sS_]) (hCont (gb292) _ ⟨hHeld, (kk_ BK292), GW292.out, GE292.out, (bs_ HB GE292.out)⟩)
       rintro gb292 w16 ⟨hS_, h0_, h1_, h2_, h3_⟩
       have n0_ : Aside0 (w16.heap[gb292]? = some (.cells #[.int .i64 0, .int .i64 0] 38 (0, 0))) := ⟨h0_⟩
       have n1_ : Aside0 (w.heap.size ≤ gb292) := ⟨h1_⟩
       have n2_ : Aside0 (w.heap.size ≤ gb292) := ⟨h2_⟩
       have n3_ : Aside0 (Below w.heap.size w w16) := ⟨h3_⟩
       clear HB
       clear h0_ h1_ h2_ h3_
       have BK292 := n0_
       have GW292 := n1_
       have GE292 := n2_
       have HB := n3_
       clear n0_ n1_ n2_ n3_
       have hHeld : w16.cell? (ad288.add ((a2).toNat * 2)) = some (.int .i64 ((rd_T38 l1 a2).f0)) ∧ w16.cell? ⟨(ad288.add ((a2).toNat * 2)).block, (ad288.add ((a2).toNat * 2)).off + 1, none⟩ = some (.int .i64 ((rd_T38 l1 a2).f1)) ∧ w16.cell? (ad289.add ((a2).toNat * 3)) = some (.int .i64 ((rd_T63 l0 a2).f0)) ∧ w16.cell? ⟨(ad289.add ((a2).toNat * 3)).block, (ad289.add ((a2).toNat * 3)).off + 1, none⟩ = some (.int .i64 ((rd_T63 l0 a2).f1)) ∧ w16.cell? ⟨(ad289.add ((a2).toNat * 3)).block, (ad289.add ((a2).toNat * 3)).off + 2, none⟩ = some (.int .i64 ((rd_T63 l0 a2).f2)) := hS_
       refine norm_ (a' := ?_) ?_ ?_
       rotate_left
       ·simp only [putAll, Act.put, sI_, s0_, sS_]
        rfl
       refine one_ (i := 14) (N := none) (w_ 15 32767) rfl rfl (one_of HT_.out (by kernel_rfl)) (by decide) (fun K hK => ?_)
       have hs17 : w16.cell? ⟨gb292, 0, none⟩ = some (.int .i64 0) := (blk_cell BK292.out 0).trans rfl
       have hfs17 := blk_frozen BK292.out 0
       have hs18 : w16.cell? ⟨gb292, 1, none⟩ = some (.int .i64 0) := (blk_cell BK292.out 1).trans rfl
       have hfs18 := blk_frozen BK292.out 1
       refine skip_ (w1 := ?_) (by rfl) rfl ?_ ?_
       rotate_left
       ·go_simp
        rfl
       refine hK.out _ _ ⟨((cell_far (p := ⟨gb292, _, none⟩) (by first | exact Nat.ne_of_lt (Nat.lt_of_lt_of_le (by have := World.block_lt_of_cell? _ _ hw288_0; first | rwa [add_block] at this | exact this) GW292.out) | (rw [add_block]; exact Nat.ne_of_lt (Nat.lt_of_lt_of_le (by have := World.block_lt_of_cell? _ _ hw288_0; first | rwa [add_block] at this | exact this) GW292.out)) | (show (Addr.add _ _).block ≠ _; rw [add_block]; exact Nat.ne_of_lt (Nat.lt_of_lt_of_le (by have := World.block_lt_of_cell? _ _ hw288_0; first | rwa [add_block] at this | exact this) GW292.out)) | (dsimp only; exact Nat.ne_of_lt (Nat.lt_of_lt_of_le (by have := World.block_lt_of_cell? _ _ hw288_0; first | rwa [add_block] at this | exact this) GW292.out))) _).trans (((cell_far (p := ⟨gb292, _, none⟩) (by first | exact Nat.ne_of_lt (Nat.lt_of_lt_of_le (by have := World.block_lt_of_cell? _ _ hw288_0; first | rwa [add_block] at this | exact this) GW292.out) | (rw [add_block]; exact Nat.ne_of_lt (Nat.lt_of_lt_of_le (by have := World.block_lt_of_cell? _ _ hw288_0; first | rwa [add_block] at this | exact this) GW292.out)) | (show (Addr.add _ _).block ≠ _; rw [add_block]; exact Nat.ne_of_lt (Nat.lt_of_lt_of_le (by have := World.block_lt_of_cell? _ _ hw288_0; first | rwa [add_block] at this | exact this) GW292.out)) | (dsimp only; exact Nat.ne_of_lt (Nat.lt_of_lt_of_le (by have := World.block_lt_of_cell? _ _ hw288_0; first | rwa [add_block] at this | exact this) GW292.out))) _).trans (hHeld.1)))), ((cell_far (p := ⟨gb292, _, none⟩) (by first | exact Nat.ne_of_lt (Nat.lt_of_lt_of_le (by have := World.block_lt_of_cell? _ _ hw288_1; first | rwa [add_block] at this | exact this) GW292.out) | (rw [add_block]; exact Nat.ne_of_lt (Nat.lt_of_lt_of_le (by have := World.block_lt_of_cell? _ _ hw288_1; first | rwa [add_block] at this | exact this) GW292.out)) | (show (Addr.add _ _).block ≠ _; rw [add_block]; exact Nat.ne_of_lt (Nat.lt_of_lt_of_le (by have := World.block_lt_of_cell? _ _ hw288_1; first | rwa [add_block] at this | exact this) GW292.out)) | (dsimp only; exact Nat.ne_of_lt (Nat.lt_of_lt_of_le (by have := World.block_lt_of_cell? _ _ hw288_1; first | rwa [add_block] at this | exact this) GW292.out))) _).trans (((cell_far (p := ⟨gb292, _, none⟩) (by first | exact Nat.ne_of_lt (Nat.lt_of_lt_of_le (by have := World.block_lt_of_cell? _ _ hw288_1; first | rwa [add_block] at this | exact this) GW292.out) | (rw [add_block]; exact Nat.ne_of_lt (Nat.lt_of_lt_of_le (by have := World.block_lt_of_cell? _ _ hw288_1; first | rwa [add_block] at this | exact this) GW292.out)) | (show (Addr.add _ _).block ≠ _; rw [add_block]; exact Nat.ne_of_lt (Nat.lt_of_lt_of_le (by have := World.block_lt_of_cell? _ _ hw288_1; first | rwa [add_block] at this | exact this) GW292.out)) | (dsimp only; exact Nat.ne_of_lt (Nat.lt_of_lt_of_le (by have := World.block_lt_of_cell? _ _ hw288_1; first | rwa [add_block] at this | exact this) GW292.out))) _).trans (hHeld.2.1)))), ((cell_far (p := ⟨gb292, _, none⟩) (by first | exact Nat.ne_of_lt (Nat.lt_of_lt_of_le (by have := World.block_lt_of_cell? _ _ hw289_0; first | rwa [add_block] at this | exact this) GW292.out) | (rw [add_block]; exact Nat.ne_of_lt (Nat.lt_of_lt_of_le (by have := World.block_lt_of_cell? _ _ hw289_0; first | rwa [add_block] at this | exact this) GW292.out)) | (show (Addr.add _ _).block ≠ _; rw [add_block]; exact Nat.ne_of_lt (Nat.lt_of_lt_of_le (by have := World.block_lt_of_cell? _ _ hw289_0; first | rwa [add_block] at this | exact this) GW292.out)) | (dsimp only; exact Nat.ne_of_lt (Nat.lt_of_lt_of_le (by have := World.block_lt_of_cell? _ _ hw289_0; first | rwa [add_block] at this | exact this) GW292.out))) _).trans (((cell_far (p := ⟨gb292, _, none⟩) (by first | exact Nat.ne_of_lt (Nat.lt_of_lt_of_le (by have := World.block_lt_of_cell? _ _ hw289_0; first | rwa [add_block] at this | exact this) GW292.out) | (rw [add_block]; exact Nat.ne_of_lt (Nat.lt_of_lt_of_le (by have := World.block_lt_of_cell? _ _ hw289_0; first | rwa [add_block] at this | exact this) GW292.out)) | (show (Addr.add _ _).block ≠ _; rw [add_block]; exact Nat.ne_of_lt (Nat.lt_of_lt_of_le (by have := World.block_lt_of_cell? _ _ hw289_0; first | rwa [add_block] at this | exact this) GW292.out)) | (dsimp only; exact Nat.ne_of_lt (Nat.lt_of_lt_of_le (by have := World.block_lt_of_cell? _ _ hw289_0; first | rwa [add_block] at this | exact this) GW292.out))) _).trans (hHeld.2.2.1)))), ((cell_far (p := ⟨gb292, _, none⟩) (by first | exact Nat.ne_of_lt (Nat.lt_of_lt_of_le (by have := World.block_lt_of_cell? _ _ hw289_1; first | rwa [add_block] at this | exact this) GW292.out) | (rw [add_block]; exact Nat.ne_of_lt (Nat.lt_of_lt_of_le (by have := World.block_lt_of_cell? _ _ hw289_1; first | rwa [add_block] at this | exact this) GW292.out)) | (show (Addr.add _ _).block ≠ _; rw [add_block]; exact Nat.ne_of_lt (Nat.lt_of_lt_of_le (by have := World.block_lt_of_cell? _ _ hw289_1; first | rwa [add_block] at this | exact this) GW292.out)) | (dsimp only; exact Nat.ne_of_lt (Nat.lt_of_lt_of_le (by have := World.block_lt_of_cell? _ _ hw289_1; first | rwa [add_block] at this | exact this) GW292.out))) _).trans (((cell_far (p := ⟨gb292, _, none⟩) (by first | exact Nat.ne_of_lt (Nat.lt_of_lt_of_le (by have := World.block_lt_of_cell? _ _ hw289_1; first | rwa [add_block] at this | exact this) GW292.out) | (rw [add_block]; exact Nat.ne_of_lt (Nat.lt_of_lt_of_le (by have := World.block_lt_of_cell? _ _ hw289_1; first | rwa [add_block] at this | exact this) GW292.out)) | (show (Addr.add _ _).block ≠ _; rw [add_block]; exact Nat.ne_of_lt (Nat.lt_of_lt_of_le (by have := World.block_lt_of_cell? _ _ hw289_1; first | rwa [add_block] at this | exact this) GW292.out)) | (dsimp only; exact Nat.ne_of_lt (Nat.lt_of_lt_of_le (by have := World.block_lt_of_cell? _ _ hw289_1; first | rwa [add_block] at this | exact this) GW292.out))) _).trans (hHeld.2.2.2.1)))), ((cell_far (p := ⟨gb292, _, none⟩) (by first | exact Nat.ne_of_lt (Nat.lt_of_lt_of_le (by have := World.block_lt_of_cell? _ _ hw289_2; first | rwa [add_block] at this | exact this) GW292.out) | (rw [add_block]; exact Nat.ne_of_lt (Nat.lt_of_lt_of_le (by have := World.block_lt_of_cell? _ _ hw289_2; first | rwa [add_block] at this | exact this) GW292.out)) | (show (Addr.add _ _).block ≠ _; rw [add_block]; exact Nat.ne_of_lt (Nat.lt_of_lt_of_le (by have := World.block_lt_of_cell? _ _ hw289_2; first | rwa [add_block] at this | exact this) GW292.out)) | (dsimp only; exact Nat.ne_of_lt (Nat.lt_of_lt_of_le (by have := World.block_lt_of_cell? _ _ hw289_2; first | rwa [add_block] at this | exact this) GW292.out))) _).trans (((cell_far (p := ⟨gb292, _, none⟩) (by first | exact Nat.ne_of_lt (Nat.lt_of_lt_of_le (by have := World.block_lt_of_cell? _ _ hw289_2; first | rwa [add_block] at this | exact this) GW292.out) | (rw [add_block]; exact Nat.ne_of_lt (Nat.lt_of_lt_of_le (by have := World.block_lt_of_cell? _ _ hw289_2; first | rwa [add_block] at this | exact this) GW292.out)) | (show (Addr.add _ _).block ≠ _; rw [add_block]; exact Nat.ne_of_lt (Nat.lt_of_lt_of_le (by have := World.block_lt_of_cell? _ _ hw289_2; first | rwa [add_block] at this | exact this) GW292.out)) | (dsimp only; exact Nat.ne_of_lt (Nat.lt_of_lt_of_le (by have := World.block_lt_of_cell? _ _ hw289_2; first | rwa [add_block] at this | exact this) GW292.out))) _).trans (hHeld.2.2.2.2))))⟩ (fun hHeld => ?_)
       clear hK K
       refine done_ (done_of HT_.out (by kernel_rfl)) ?_
       try go_wp2
       go_loopg [13, 14] k1 (fun kq v13 v14 w' => ∃ (x13_2 : List (S38)) (x14_2 : Int), v14 = .int .i64 x14_2 ∧ Aside0 (cohousingref28_equation.l1 kq l0 l1 a2 x9_1 x10_1 x13_2 x14_2 t290 t291 = some r) ∧ Aside0 (kq ≤ k1) ∧ Aside0 (Kd.R k38 38 w' w.heap.size (fun k_ => k_ ≠ gb292) v13 x13_2) ∧ Aside0 (w'.heap[gb292]? = some (.cells #[.int .i64 t290, .int .i64 t291] 38 (0, 0))) ∧ Aside0 (Below w.heap.size w w'))
       case atStart => exact ⟨(([] : List (S38))), (0), sd_, H', ⟨Nat.le_refl _⟩, ⟨by first | exact Kd.R_nil _ _ _ _ _ | exact Kd.N_nil _ _ _ _ _ | exact Kd.V_nil _ _ _ _ _ | exact Kd.Q_nil _ _ _ _ _ | exact Kd.S_nil _ _ _ _ _⟩, ⟨by (with_reducible repeat (first | refine blk_drewN ?_ _ | refine blk_drew ?_ | refine blk_alloc ?_ _)); refine blk_put (cs := #[.int .i64 t290, .int .i64 0]) ?_ 1 _ rfl; (with_reducible repeat (first | refine blk_drewN ?_ _ | refine blk_drew ?_ | refine blk_alloc ?_ _)); refine blk_put (cs := #[.int .i64 0, .int .i64 0]) ?_ 0 _ rfl; (with_reducible repeat (first | refine blk_drewN ?_ _ | refine blk_drew ?_ | refine blk_alloc ?_ _)); exact BK292.out⟩, ⟨by repeat (first | (with_reducible first | exact HB.out | apply below_alloc | apply pw_below_drewN | apply below_drew1 | refine below_set ?_ GE292.out) | exact HB.out)⟩⟩
       case round =>
        clear H'
        try clear c1
        try clear p2
        try clear q2
        try clear hx2
        try clear c3
        try clear c5
        try clear c5b0
        try clear c6
        try clear c6b0
        try clear p6
        try clear c7
        try clear c7b0
        try clear c8
        try clear c8b0
        try clear c9
        try clear c9b0
        try clear c10
        try clear c10b0
        try clear c11
        try clear c11b0
        try clear hx284_0
        try clear hx285_0
        try clear hx285_1
        try clear hx286_0
        try clear hx287_0
        try clear hx287_1
        try clear hx288_0
        try clear hx288_1
        try clear hx289_0
        try clear hx289_1
        try clear hx289_2
        try clear p2
        try clear p284
        try clear p285
        try clear p286
        try clear p287
        try clear p288
        try clear p289
        try clear q284
        try clear q285
        try clear q286
        try clear q287
        try clear q288
        try clear q289
        obtain ⟨x13_2, x14_2, rfl, HA, HK2, HO_13, BK292, HB⟩ := hrel
        cases gk with
        | zero => exact absurd HA.out (by simp [cohousingref28_equation.l1])
        | succ k2 =>
         have H := HA.out
         clear HA
         simp only [cohousingref28_equation.l1] at H
         by_cases c19 : x14_2 < (l1.length : Int)
         ·rw [if_pos c19] at H
          have c19b0 : decide (x14_2 < (l1.length : Int)) = true := decide_eq_true c19
          clear c19
          by_cases c20 : 0 ≤ x14_2
          ·rw [if_pos c20] at H
           have c20b0 : decide (0 ≤ x14_2) = true := decide_eq_true c20
           clear c20
           by_cases c21 : x14_2 = a2
           ·rw [if_pos c21] at H
            have c21b0 : (x14_2 == a2) = true := beq_iff_eq.mpr c21
            have c21b1 : (x14_2 != a2) = false := bne_eq_false_iff_eq.mpr c21
            clear c21
            by_cases c22 : x14_2 > a2
            ·rw [if_pos c22] at H
             have c22b0 : decide (a2 < x14_2) = true := decide_eq_true c22
             clear c22
             by_cases c23 : x14_2 < (l0.length : Int)
             ·rw [if_pos c23] at H
              have c23b0 : decide (x14_2 < (l0.length : Int)) = true := decide_eq_true c23
              clear c23
              by_cases c24 : 0 ≤ a2
              ·rw [if_pos c24] at H
               have c24b0 : decide (0 ≤ a2) = true := decide_eq_true c24
               clear c24
               by_cases c25 : a2 < (l0.length : Int)
               ·rw [if_pos c25] at H
                have c25b0 : decide (a2 < (l0.length : Int)) = true := decide_eq_true c25
                clear c25
                by_cases c26 : ((rd_T63 l0 x14_2).f1) = ((rd_T63 l0 a2).f0)
                ·rw [if_pos c26] at H
                 have c26b0 : (((rd_T63 l0 x14_2).f1) == ((rd_T63 l0 a2).f0)) = true := beq_iff_eq.mpr c26
                 have c26b1 : (((rd_T63 l0 x14_2).f1) != ((rd_T63 l0 a2).f0)) = false := bne_eq_false_iff_eq.mpr c26
                 clear c26
                 replace H := Option.bind_eq_some_iff.mp H
                 obtain ⟨⟨t298, t299⟩, A270, H⟩ := H
                 replace H : (if x13_2.length < 8796093022208 then (cohousingref28_equation.l1 k2 l0 l1 a2 x9_1 x10_1 (x13_2 ++ [(⟨t298, t299⟩ : S38)]) (wrap64 (x14_2 + 1)) t290 t291) else (none)) = some r := H
                 have A27 := Aside0.mk A270
                 clear A270
                 by_cases c28 : x13_2.length < 8796093022208
                 ·rw [if_pos c28] at H
                  have LMc28 := Aside0.mk c28
                  clear c28
                  obtain ⟨y300, hy300⟩ : ∃ y_ : List (S38), y_ = (x13_2 ++ [(⟨t298, t299⟩ : S38)]) := ⟨_, rfl⟩
                  replace H : (cohousingref28_equation.l1 k2 l0 l1 a2 x9_1 x10_1 y300 (wrap64 (x14_2 + 1)) t290 t291) = some r := by first | (rw [hy300]; with_reducible exact H) | (have H2_ := (Option.bind_some _ _).symm.trans H; rw [hy300]; with_reducible exact H2_) | (have H2_ := (Option.bind_some _ _).symm.trans H; with_reducible exact H2_) | with_reducible exact H | (rw [hy300]; exact H) | exact H
                  have Ny300 := Aside0.mk hy300
                  clear hy300
                  have H' := Aside0.mk H
                  clear H
                  have p293 : 0 ≤ (x14_2 : Int) := od_
                  have q293 : x14_2 < (l1.length : Int) := od_
                  obtain ⟨ad293, e293, hx293_0, hx293_1⟩ := at_T38 HR1.out x14_2 p293 q293
                  obtain rfl : ad288 = ad293 := (by injection e293)
                  replace hx293_0 := (HB.out.cell (World.block_lt_of_cell? w _ hx293_0)).trans hx293_0
                  replace hx293_1 := (HB.out.cell (World.block_lt_of_cell? w _ hx293_1)).trans hx293_1
                  replace p293 := eq_true p293
                  replace q293 := eq_true q293
                  try go_wp2_with (first | ((with_reducible refine gate_dst (N := 15) rfl ?_); refine box_event ?hg (N := 15) ?hd (cs := #[.int .i64 0, .int .i64 0]) (t := 38) ?hr ?_; (case hd => rfl); (case hg => rfl); (case hr => first | (go_simp; done) | (go_simp; rfl)); intro gb294 hg w29 hbox hb; have n0_ := Aside0.mk (Kd.R_below (Kd.R_elderB (rr_ HO_13) gb294 (Nat.le_of_eq hg.symm)) hb); have n1_ := Aside0.mk (blk_below (g := gb292) (o := .cells #[.int .i64 t290, .int .i64 t291] 38 (0, 0)) (kk_ BK292) hb); have n2_ := Aside0.mk (below_step (bs_ HB GE292.out) hb); have n3_ := Aside0.mk (hbox); have n4_ := Aside0.mk ((by rw [hg]; exact (below_size (bs_ HB GE292.out)) : w.heap.size ≤ gb294)); have n5_ := Aside0.mk ((by rw [hg]; exact (below_size (bs_ HB GE292.out)) : w.heap.size ≤ gb294)); have n6_ := Aside0.mk ((by rw [hg]; exact Nat.ne_of_lt (blk_lt (g := gb292) (o := .cells #[.int .i64 t290, .int .i64 t291] 38 (0, 0)) (kk_ BK292)) : gb292 ≠ gb294)); have n7_ := Aside0.mk ((by rw [hg]; exact Nat.ne_of_gt (blk_lt (g := gb292) (o := .cells #[.int .i64 t290, .int .i64 t291] 38 (0, 0)) (kk_ BK292)) : gb294 ≠ gb292)); clear HO_13; clear BK292; clear HB; have HO_13 := n0_; have BK292 := n1_; have HB := n2_; have BK294 := n3_; have GW294 := n4_; have GE294 := n5_; have NB292_294 := n6_; have NB294_292 := n7_; clear n0_ n1_ n2_ n3_ n4_ n5_ n6_ n7_; clear hb hbox hg; have hnb30 := NB294_292.out; have hnc30 := NB292_294.out; have hcz31_0 : w29.cell? ⟨gb294, 0, none⟩ = some (.int .i64 0) := (blk_cell BK294.out 0).trans rfl; have hcz31_1 : w29.cell? ⟨gb294, 1, none⟩ = some (.int .i64 0) := (blk_cell BK294.out 1).trans rfl; have hfz31_0 := blk_frozen BK294.out 0; have hfz31_1 := blk_frozen BK294.out 1; have hcz32_0 : w29.cell? ⟨gb292, 0, none⟩ = some (.int .i64 t290) := (blk_cell BK292.out 0).trans rfl; have hcz32_1 : w29.cell? ⟨gb292, 1, none⟩ = some (.int .i64 t291) := (blk_cell BK292.out 1).trans rfl; have hfz32_0 := blk_frozen BK292.out 0; have hfz32_1 := blk_frozen BK292.out 1))
                  have n0_ : Aside0 (Kd.R k38 38 ((((w29.setCell ⟨gb294, 0, none⟩ (.int .i64 ((rd_T38 l1 x14_2).f0))).setCell ⟨gb294, 1, none⟩ (.int .i64 ((rd_T38 l1 x14_2).f1))).setCell ⟨gb294, 0, none⟩ (.int .i64 t290)).setCell ⟨gb294, 1, none⟩ (.int .i64 t291)) w.heap.size (fun k_ => k_ ≠ gb292 ∧ k_ ≠ gb294) u13 x13_2) := ⟨by (with_reducible repeat (first | apply Kd.R_alloc | apply Kd.R_drewN | apply Kd.R_drew)); exact Kd.R_mono (Kd.R_far (p := ⟨gb294, 1, none⟩) (Kd.R_far (p := ⟨gb294, 0, none⟩) (Kd.R_far (p := ⟨gb294, 1, none⟩) (Kd.R_far (p := ⟨gb294, 0, none⟩) (Kd.R_mono HO_13.out (fun k_ hk => (⟨hk, hk.2⟩ : _ ∧ k_ ≠ gb294))) (fun _ hk => hk.2) (.int .i64 ((rd_T38 l1 x14_2).f0))) (fun _ hk => hk.2) (.int .i64 ((rd_T38 l1 x14_2).f1))) (fun _ hk => hk.2) (.int .i64 t290)) (fun _ hk => hk.2) (.int .i64 t291)) (fun _ hk => ⟨hk.1.1, hk.1.2⟩)⟩
                  have n1_ : Aside0 (((((w29.setCell ⟨gb294, 0, none⟩ (.int .i64 ((rd_T38 l1 x14_2).f0))).setCell ⟨gb294, 1, none⟩ (.int .i64 ((rd_T38 l1 x14_2).f1))).setCell ⟨gb294, 0, none⟩ (.int .i64 t290)).setCell ⟨gb294, 1, none⟩ (.int .i64 t291)).heap[gb292]? = some (.cells #[.int .i64 t290, .int .i64 t291] 38 (0, 0))) := ⟨by (with_reducible repeat (first | refine blk_drewN ?_ _ | refine blk_drew ?_ | refine blk_alloc ?_ _)); refine blk_far ?_ NB292_294.out _; (with_reducible repeat (first | refine blk_drewN ?_ _ | refine blk_drew ?_ | refine blk_alloc ?_ _)); refine blk_far ?_ NB292_294.out _; (with_reducible repeat (first | refine blk_drewN ?_ _ | refine blk_drew ?_ | refine blk_alloc ?_ _)); refine blk_far ?_ NB292_294.out _; (with_reducible repeat (first | refine blk_drewN ?_ _ | refine blk_drew ?_ | refine blk_alloc ?_ _)); refine blk_far ?_ NB292_294.out _; (with_reducible repeat (first | refine blk_drewN ?_ _ | refine blk_drew ?_ | refine blk_alloc ?_ _)); exact BK292.out⟩
                  have n2_ : Aside0 (((((w29.setCell ⟨gb294, 0, none⟩ (.int .i64 ((rd_T38 l1 x14_2).f0))).setCell ⟨gb294, 1, none⟩ (.int .i64 ((rd_T38 l1 x14_2).f1))).setCell ⟨gb294, 0, none⟩ (.int .i64 t290)).setCell ⟨gb294, 1, none⟩ (.int .i64 t291)).heap[gb294]? = some (.cells #[.int .i64 t290, .int .i64 t291] 38 (0, 0))) := ⟨by (with_reducible repeat (first | refine blk_drewN ?_ _ | refine blk_drew ?_ | refine blk_alloc ?_ _)); refine blk_put (cs := #[.int .i64 t290, .int .i64 ((rd_T38 l1 x14_2).f1)]) ?_ 1 _ rfl; (with_reducible repeat (first | refine blk_drewN ?_ _ | refine blk_drew ?_ | refine blk_alloc ?_ _)); refine blk_put (cs := #[.int .i64 ((rd_T38 l1 x14_2).f0), .int .i64 ((rd_T38 l1 x14_2).f1)]) ?_ 0 _ rfl; (with_reducible repeat (first | refine blk_drewN ?_ _ | refine blk_drew ?_ | refine blk_alloc ?_ _)); refine blk_put (cs := #[.int .i64 ((rd_T38 l1 x14_2).f0), .int .i64 0]) ?_ 1 _ rfl; (with_reducible repeat (first | refine blk_drewN ?_ _ | refine blk_drew ?_ | refine blk_alloc ?_ _)); refine blk_put (cs := #[.int .i64 0, .int .i64 0]) ?_ 0 _ rfl; (with_reducible repeat (first | refine blk_drewN ?_ _ | refine blk_drew ?_ | refine blk_alloc ?_ _)); exact BK294.out⟩
                  have n3_ : Aside0 (Below w.heap.size w ((((w29.setCell ⟨gb294, 0, none⟩ (.int .i64 ((rd_T38 l1 x14_2).f0))).setCell ⟨gb294, 1, none⟩ (.int .i64 ((rd_T38 l1 x14_2).f1))).setCell ⟨gb294, 0, none⟩ (.int .i64 t290)).setCell ⟨gb294, 1, none⟩ (.int .i64 t291))) := ⟨by repeat (first | (with_reducible first | exact HB.out | apply below_alloc | apply pw_below_drewN | apply below_drew1 | refine below_set ?_ GE292.out | refine below_set ?_ GE294.out) | exact HB.out)⟩
                  (try clear HO_13)
                  (try clear BK292)
                  (try clear BK294)
                  (try clear HB)
                  generalize ((((w29.setCell ⟨gb294, 0, none⟩ (.int .i64 ((rd_T38 l1 x14_2).f0))).setCell ⟨gb294, 1, none⟩ (.int .i64 ((rd_T38 l1 x14_2).f1))).setCell ⟨gb294, 0, none⟩ (.int .i64 t290)).setCell ⟨gb294, 1, none⟩ (.int .i64 t291)) = w33 at n0_ n1_ n2_ n3_ ⊢
                  have HO_13 := n0_
                  have BK292 := n1_
                  have BK294 := n2_
                  have HB := n3_
                  clear n0_ n1_ n2_ n3_
                  have n0_ := Aside0.mk (Kd.R_drew HO_13.out)
                  have n1_ := Aside0.mk (blk_drew BK292.out)
                  have n2_ := Aside0.mk (blk_drew BK294.out)
                  have n3_ := Aside0.mk (below_drew1 HB.out)
                  clear HO_13
                  clear BK292
                  clear BK294
                  clear HB
                  have HO_13 := n0_
                  have BK292 := n1_
                  have BK294 := n2_
                  have HB := n3_
                  clear n0_ n1_ n2_ n3_
                  have p295 : 0 ≤ (x14_2 : Int) := od_
                  have q295 : x14_2 < (l0.length : Int) := od_
                  obtain ⟨ad295, e295, hx295_0, hx295_1, hx295_2⟩ := at_T63 HR0.out x14_2 p295 q295
                  have hw295_2 := hx295_2
                  have hw295_1 := hx295_1
                  have hw295_0 := hx295_0
                  obtain rfl : ad289 = ad295 := (by injection e295)
                  replace hx295_0 := (HB.out.cell (World.block_lt_of_cell? w _ hx295_0)).trans hx295_0
                  replace hx295_1 := (HB.out.cell (World.block_lt_of_cell? w _ hx295_1)).trans hx295_1
                  replace hx295_2 := (HB.out.cell (World.block_lt_of_cell? w _ hx295_2)).trans hx295_2
                  replace p295 := eq_true p295
                  replace q295 := eq_true q295
                  have p296 : 0 ≤ (a2 : Int) := od_
                  have q296 : a2 < (l0.length : Int) := od_
                  obtain ⟨ad296, e296, hx296_0, hx296_1, hx296_2⟩ := at_T63 HR0.out a2 p296 q296
                  have hw296_2 := hx296_2
                  have hw296_1 := hx296_1
                  have hw296_0 := hx296_0
                  obtain rfl : ad289 = ad296 := (by injection e296)
                  replace hx296_0 := (HB.out.cell (World.block_lt_of_cell? w _ hx296_0)).trans hx296_0
                  replace hx296_1 := (HB.out.cell (World.block_lt_of_cell? w _ hx296_1)).trans hx296_1
                  replace hx296_2 := (HB.out.cell (World.block_lt_of_cell? w _ hx296_2)).trans hx296_2
                  replace p296 := eq_true p296
                  replace q296 := eq_true q296
                  refine start_ (n := 16) (S := fun w' => w'.cell? (ad289.add ((x14_2).toNat * 3)) = some (.int .i64 ((rd_T63 l0 x14_2).f0)) ∧ w'.cell? ⟨(ad289.add ((x14_2).toNat * 3)).block, (ad289.add ((x14_2).toNat * 3)).off + 1, none⟩ = some (.int .i64 ((rd_T63 l0 x14_2).f1)) ∧ w'.cell? ⟨(ad289.add ((x14_2).toNat * 3)).block, (ad289.add ((x14_2).toNat * 3)).off + 2, none⟩ = some (.int .i64 ((rd_T63 l0 x14_2).f2)) ∧ w'.cell? (ad289.add ((a2).toNat * 3)) = some (.int .i64 ((rd_T63 l0 a2).f0)) ∧ w'.cell? ⟨(ad289.add ((a2).toNat * 3)).block, (ad289.add ((a2).toNat * 3)).off + 1, none⟩ = some (.int .i64 ((rd_T63 l0 a2).f1)) ∧ w'.cell? ⟨(ad289.add ((a2).toNat * 3)).block, (ad289.add ((a2).toNat * 3)).off + 2, none⟩ = some (.int .i64 ((rd_T63 l0 a2).f2))) (ds := []) #[n_, n_, n_, n_, n_, n_, n_, n_, n_, n_, n_, n_, n_, n_, n_, n_] (by kernel_rfl) rfl rfl ⟨((HB.out.cell (World.block_lt_of_cell? w _ hw295_0)).trans hw295_0), ((HB.out.cell (World.block_lt_of_cell? w _ hw295_1)).trans hw295_1), ((HB.out.cell (World.block_lt_of_cell? w _ hw295_2)).trans hw295_2), ((HB.out.cell (World.block_lt_of_cell? w _ hw296_0)).trans hw296_0), ((HB.out.cell (World.block_lt_of_cell? w _ hw296_1)).trans hw296_1), ((HB.out.cell (World.block_lt_of_cell? w _ hw296_2)).trans hw296_2)⟩ (fun hHeld => ?_); refine with_tabW cohousingref28_equation.tab16 cohousingref28_equation.bits16 (fun HT_ HW_ => ?_)
                  generalize w33.drew = w34 at HO_13 BK292 BK294 HB hx295_0 hx295_1 hx295_2 hx296_0 hx296_1 hx296_2 hHeld ⊢
                  refine pu_ 0 69 (w_ 16 1) rfl HT_ ?_
                  refine pu_ 1 70 (w_ 16 3) rfl HT_ ?_
                  refine pu_ 2 71 (w_ 16 7) rfl HT_ ?_
                  refine pu_ 3 72 (w_ 16 15) rfl HT_ ?_
                  refine pu_ 4 73 (w_ 16 31) rfl HT_ ?_
                  refine pu_ 5 74 (w_ 16 63) rfl HT_ ?_
                  refine pu_ 6 75 (w_ 16 127) rfl HT_ ?_
                  refine pu_ 7 76 (w_ 16 255) rfl HT_ ?_
                  refine pu_ 9 78 (w_ 16 767) rfl HT_ ?_
                  refine pu_ 10 79 (w_ 16 1791) rfl HT_ ?_
                  refine pu_ 11 80 (w_ 16 3839) rfl HT_ ?_
                  refine pu_ 12 81 (w_ 16 7935) rfl HT_ ?_
                  refine ta_ 8 77 (w_ 16 8191) rfl HT_ HW_ hHeld (by rintro w' ⟨s0, s1, s2, s3, s4, s5⟩; go_simp; with_reducible rfl) ?_
                  refine ta_ 13 82 (w_ 16 16383) rfl HT_ HW_ hHeld (by rintro w' ⟨s0, s1, s2, s3, s4, s5⟩; go_simp; with_reducible rfl) ?_
                  refine pu_ 14 83 (w_ 16 32767) rfl HT_ ?_
                  refine pu_ 15 84 (w_ 16 65535) rfl HT_ ?_
                  refine done_ (done_of HT_.out (by kernel_rfl)) ?_
                  try go_wp2
                  have n0_ := Aside0.mk (Kd.R_drew HO_13.out)
                  have n1_ := Aside0.mk (blk_drew BK292.out)
                  have n2_ := Aside0.mk (blk_drew BK294.out)
                  have n3_ := Aside0.mk (below_drew1 HB.out)
                  clear HO_13
                  clear BK292
                  clear BK294
                  clear HB
                  have HO_13 := n0_
                  have BK292 := n1_
                  have BK294 := n2_
                  have HB := n3_
                  clear n0_ n1_ n2_ n3_
                  have p297 : 0 ≤ (a2 : Int) := od_
                  have q297 : a2 < (l0.length : Int) := od_
                  obtain ⟨ad297, e297, hx297_0, hx297_1, hx297_2⟩ := at_T63 HR0.out a2 p297 q297
                  have hw297_2 := hx297_2
                  have hw297_1 := hx297_1
                  have hw297_0 := hx297_0
                  obtain rfl : ad289 = ad297 := (by injection e297)
                  replace hx297_0 := (HB.out.cell (World.block_lt_of_cell? w _ hx297_0)).trans hx297_0
                  replace hx297_1 := (HB.out.cell (World.block_lt_of_cell? w _ hx297_1)).trans hx297_1
                  replace hx297_2 := (HB.out.cell (World.block_lt_of_cell? w _ hx297_2)).trans hx297_2
                  replace p297 := eq_true p297
                  replace q297 := eq_true q297
                  refine start_ (n := 23) (S := fun w' => w'.cell? ⟨gb294, 0, none⟩ = some (.int .i64 t290) ∧ w'.cell? ⟨gb294, 1, none⟩ = some (.int .i64 t291) ∧ w'.cell? ⟨gb292, 0, none⟩ = some (.int .i64 t290) ∧ w'.cell? ⟨gb292, 1, none⟩ = some (.int .i64 t291) ∧ w'.cell? (ad289.add ((a2).toNat * 3)) = some (.int .i64 ((rd_T63 l0 a2).f0)) ∧ w'.cell? ⟨(ad289.add ((a2).toNat * 3)).block, (ad289.add ((a2).toNat * 3)).off + 1, none⟩ = some (.int .i64 ((rd_T63 l0 a2).f1)) ∧ w'.cell? ⟨(ad289.add ((a2).toNat * 3)).block, (ad289.add ((a2).toNat * 3)).off + 2, none⟩ = some (.int .i64 ((rd_T63 l0 a2).f2))) (ds := [22]) #[n_, n_, n_, n_, n_, n_, n_, n_, n_, n_, n_, n_, n_, n_, n_, n_, n_, n_, n_, n_, n_, n_, n_] (by kernel_rfl) rfl rfl ⟨(blk_cell BK294.out 0).trans rfl, (blk_cell BK294.out 1).trans rfl, (blk_cell BK292.out 0).trans rfl, (blk_cell BK292.out 1).trans rfl, ((HB.out.cell (World.block_lt_of_cell? w _ hw297_0)).trans hw297_0), ((HB.out.cell (World.block_lt_of_cell? w _ hw297_1)).trans hw297_1), ((HB.out.cell (World.block_lt_of_cell? w _ hw297_2)).trans hw297_2)⟩ (fun hHeld => ?_); refine with_tabW cohousingref28_equation.tab17 cohousingref28_equation.bits17 (fun HT_ HW_ => ?_)
                  generalize w34.drew = w35 at HO_13 BK292 BK294 HB hx297_0 hx297_1 hx297_2 hHeld ⊢
                  refine pu_ 1 86 (w_ 23 2) rfl HT_ ?_
                  refine pu_ 3 88 (w_ 23 10) rfl HT_ ?_
                  refine pu_ 4 89 (w_ 23 26) rfl HT_ ?_
                  refine pu_ 5 90 (w_ 23 58) rfl HT_ ?_
                  refine pu_ 6 91 (w_ 23 122) rfl HT_ ?_
                  refine pu_ 9 94 (w_ 23 634) rfl HT_ ?_
                  refine pu_ 10 95 (w_ 23 1658) rfl HT_ ?_
                  refine pu_ 14 99 (w_ 23 18042) rfl HT_ ?_
                  refine pu_ 16 101 (w_ 23 83578) rfl HT_ ?_
                  refine pu_ 17 102 (w_ 23 214650) rfl HT_ ?_
                  refine ta_ 0 85 (w_ 23 214651) rfl HT_ HW_ hHeld (by rintro w' ⟨s0, s1, s2, s3, s4, s5, s6⟩; go_simp; with_reducible rfl) ?_
                  refine ta_ 2 87 (w_ 23 214655) rfl HT_ HW_ hHeld (by rintro w' ⟨s0, s1, s2, s3, s4, s5, s6⟩; go_simp; with_reducible rfl) ?_
                  refine ta_ 7 92 (w_ 23 214783) rfl HT_ HW_ hHeld (by rintro w' ⟨s0, s1, s2, s3, s4, s5, s6⟩; go_simp; with_reducible rfl) ?_
                  refine pu_ 8 93 (w_ 23 215039) rfl HT_ ?_
                  refine ta_ 11 96 (w_ 23 217087) rfl HT_ HW_ hHeld (by rintro w' ⟨s0, s1, s2, s3, s4, s5, s6⟩; go_simp; with_reducible rfl) ?_
                  refine pu_ 12 97 (w_ 23 221183) rfl HT_ ?_
                  refine pu_ 13 98 (w_ 23 229375) rfl HT_ ?_
                  refine ta_ 15 100 (w_ 23 262143) rfl HT_ HW_ hHeld (by rintro w' ⟨s0, s1, s2, s3, s4, s5, s6⟩; go_simp; with_reducible rfl) ?_
                  refine ta_ 18 103 (w_ 23 524287) rfl HT_ HW_ hHeld (by rintro w' ⟨s0, s1, s2, s3, s4, s5, s6⟩; go_simp; with_reducible rfl) ?_
                  refine pu_ 19 104 (w_ 23 1048575) rfl HT_ ?_
                  refine pu_ 20 105 (w_ 23 2097151) rfl HT_ ?_
                  refine one_ (i := 21) (N := some 106) (w_ 23 4194303) rfl rfl (one_of HT_.out (by kernel_rfl)) (by decide) (fun K hK => ?_)
                  refine goes_ Try.func96 (by kernel_rfl) rfl #[.agg #[.int .i64 t290, .int .i64 t291], .int .i64 (wrap64 ((wrap64 (t290 - ((rd_T63 l0 a2).f2))) - (wrap64 (x10_1 - t291)))), .int .i64 (wrap64 (t291 - (wrap64 (x9_1 - t290))))] (by rfl) rfl rfl (by (try simp only [List.map_toArray, List.map_cons, List.map_nil]); first | done | rfl | (simp only [List.length_drop, List.length_take]; rfl)) ?_
                  with_reducible refine (cohousingref28_narrow.calls t290 t291 (wrap64 ((wrap64 (t290 - ((rd_T63 l0 a2).f2))) - (wrap64 (x10_1 - t291)))) (wrap64 (t291 - (wrap64 (x9_1 - t290)))) t298 t299 _ A27.out).mono ?_
                  rintro e w36 ⟨rfl, hb⟩
                  refine ⟨_, rfl, ?_⟩
                  have n0_ := Aside0.mk (Kd.R_below (rr_ HO_13) hb)
                  have n1_ := Aside0.mk (blk_below (g := gb292) (o := .cells #[.int .i64 t290, .int .i64 t291] 38 (0, 0)) (kk_ BK292) hb)
                  have n2_ := Aside0.mk (blk_below (g := gb294) (o := .cells #[.int .i64 t290, .int .i64 t291] 38 (0, 0)) (kk_ BK294) hb)
                  have n3_ := Aside0.mk (below_step (by repeat (first | (with_reducible first | exact HB.out | apply below_alloc | apply pw_below_drewN | apply below_drew1 | refine below_set ?_ GE292.out | refine below_set ?_ GE294.out) | exact HB.out)) hb)
                  clear HO_13
                  clear BK292
                  clear BK294
                  clear HB
                  have HO_13 := n0_
                  have BK292 := n1_
                  have BK294 := n2_
                  have HB := n3_
                  clear n0_ n1_ n2_ n3_
                  (try clear hb)
                  (try clear hb2)
                  (try clear hk)
                  (try clear hi)
                  refine hK.out _ _ ⟨(blk_cell BK294.out 0).trans rfl, (blk_cell BK294.out 1).trans rfl, (blk_cell BK292.out 0).trans rfl, (blk_cell BK292.out 1).trans rfl, ((HB.out.cell (World.block_lt_of_cell? w _ hw297_0)).trans hw297_0), ((HB.out.cell (World.block_lt_of_cell? w _ hw297_1)).trans hw297_1), ((HB.out.cell (World.block_lt_of_cell? w _ hw297_2)).trans hw297_2)⟩ (fun hHeld => ?_)
                  clear hK K
                  refine norm_ (a' := ?_) ?_ ?_
                  rotate_left
                  ·show Act.put _ (some 106) _ = _
                   simp only [Act.put, sI_, s0_, sS_, i64_w, i32_w]
                   rfl
                  refine last_ (i := 22) (N := none) (w_ 23 8388607) rfl rfl (one_of HT_.out (by kernel_rfl)) (by decide) (fun K hK => ?_)
                  have hs37 : w36.cell? ⟨gb294, 0, none⟩ = some (.int .i64 t290) := (blk_cell BK294.out 0).trans rfl
                  have hfs37 := blk_frozen BK294.out 0
                  have hns37_0 := NB292_294.out
                  have hms37_0 := NB294_292.out
                  have hs38 : w36.cell? ⟨gb294, 1, none⟩ = some (.int .i64 t291) := (blk_cell BK294.out 1).trans rfl
                  have hfs38 := blk_frozen BK294.out 1
                  have hns38_0 := NB292_294.out
                  have hms38_0 := NB294_292.out
                  refine skip_ (w1 := ?_) (by rfl) rfl ?_ ?_
                  rotate_left
                  ·go_simp
                   rfl
                  refine hK.out _ _ ?_
                  clear hK K
                  refine done_ (done_of HT_.out (by kernel_rfl)) ?_
                  have hcz39_0 : w36.cell? ⟨gb294, 0, none⟩ = some (.int .i64 t290) := (blk_cell BK294.out 0).trans rfl
                  have hcz39_1 : w36.cell? ⟨gb294, 1, none⟩ = some (.int .i64 t291) := (blk_cell BK294.out 1).trans rfl
                  have hfz39_0 := blk_frozen BK294.out 0
                  have hfz39_1 := blk_frozen BK294.out 1
                  try go_wp2_with (first | ((with_reducible refine gate_builtin (b := .append) (xs := #[.tmp 107, .tmp 109]) rfl ?_); at_builtin; refine Kd.R_append k38 (w0 := w) w.heap.size rfl (.tmp 107) (.tmp 109) 23 38 (.agg #[(.int .i64 0), (.int .i64 0)]) 16 rfl Try.underlying23 info38 rfl (by decide) (by omega) u13 x13_2 (⟨t298, t299⟩ : S38) [.int .i64 t298, .int .i64 t299] (fun k_ => k_ ≠ gb292 ∧ k_ ≠ gb294) (fun _ => False) rfl (by first | (go_simp; done) | (go_simp; rfl)) ?aP (fun _ hk => hk.elim) ?aF ?aO ?aB ?aS ?aL ?_; (case aP => exact k38_mkM _ _ _ (⟨t298, t299⟩ : S38)); (case aB => exact (by repeat (first | (with_reducible first | exact HB.out | apply below_alloc | apply pw_below_drewN | apply below_drew1 | refine below_set ?_ GE292.out | refine below_set ?_ GE294.out) | exact HB.out))); (case aF => exact (fun k_ hk => ⟨Kd.freshB (g := gb292) (o := .cells #[.int .i64 t290, .int .i64 t291] 38 (0, 0)) (by (with_reducible repeat (first | refine blk_drewN ?_ _ | refine blk_drew ?_ | refine blk_alloc ?_ _)); refine blk_far ?_ NB292_294.out _; (with_reducible repeat (first | refine blk_drewN ?_ _ | refine blk_drew ?_ | refine blk_alloc ?_ _)); refine blk_far ?_ NB292_294.out _; (with_reducible repeat (first | refine blk_drewN ?_ _ | refine blk_drew ?_ | refine blk_alloc ?_ _)); exact BK292.out) k_ hk, Kd.freshB (g := gb294) (o := .cells #[.int .i64 t298, .int .i64 t299] 38 (0, 0)) (by (with_reducible repeat (first | refine blk_drewN ?_ _ | refine blk_drew ?_ | refine blk_alloc ?_ _)); refine blk_put (cs := #[.int .i64 t298, .int .i64 t291]) ?_ 1 _ rfl; (with_reducible repeat (first | refine blk_drewN ?_ _ | refine blk_drew ?_ | refine blk_alloc ?_ _)); refine blk_put (cs := #[.int .i64 t290, .int .i64 t291]) ?_ 0 _ rfl; (with_reducible repeat (first | refine blk_drewN ?_ _ | refine blk_drew ?_ | refine blk_alloc ?_ _)); exact BK294.out) k_ hk⟩)); (case aO => exact (by (with_reducible repeat (first | apply Kd.R_alloc | apply Kd.R_drewN | apply Kd.R_drew)); exact Kd.R_mono (Kd.R_far (p := ⟨gb294, 1, none⟩) (Kd.R_far (p := ⟨gb294, 0, none⟩) (Kd.R_mono HO_13.out (fun k_ hk => (⟨hk, hk.2⟩ : _ ∧ k_ ≠ gb294))) (fun _ hk => hk.2) (.int .i64 t298)) (fun _ hk => hk.2) (.int .i64 t299)) (fun _ hk => ⟨hk.1.1, hk.1.2⟩))); (case aS => exact (below_size (by repeat (first | (with_reducible first | exact HB.out | apply below_alloc | apply pw_below_drewN | apply below_drew1 | refine below_set ?_ GE292.out | refine below_set ?_ GE294.out) | exact HB.out)))); (case aL => have := LMc28.out; omega); intro v301 w40 ho hb hg hat; rw [← Ny300.out] at ho; have n0_ := Aside0.mk (blk_grown (g := gb292) (o := .cells #[.int .i64 t290, .int .i64 t291] 38 (0, 0)) (by (with_reducible repeat (first | refine blk_drewN ?_ _ | refine blk_drew ?_ | refine blk_alloc ?_ _)); refine blk_far ?_ NB292_294.out _; (with_reducible repeat (first | refine blk_drewN ?_ _ | refine blk_drew ?_ | refine blk_alloc ?_ _)); refine blk_far ?_ NB292_294.out _; (with_reducible repeat (first | refine blk_drewN ?_ _ | refine blk_drew ?_ | refine blk_alloc ?_ _)); exact BK292.out) hg (Kd.R_away HO_13.out (fun _ hk => hk.1))); have n1_ := Aside0.mk (blk_grown (g := gb294) (o := .cells #[.int .i64 t298, .int .i64 t299] 38 (0, 0)) (by (with_reducible repeat (first | refine blk_drewN ?_ _ | refine blk_drew ?_ | refine blk_alloc ?_ _)); refine blk_put (cs := #[.int .i64 t298, .int .i64 t291]) ?_ 1 _ rfl; (with_reducible repeat (first | refine blk_drewN ?_ _ | refine blk_drew ?_ | refine blk_alloc ?_ _)); refine blk_put (cs := #[.int .i64 t290, .int .i64 t291]) ?_ 0 _ rfl; (with_reducible repeat (first | refine blk_drewN ?_ _ | refine blk_drew ?_ | refine blk_alloc ?_ _)); exact BK294.out) hg (Kd.R_away HO_13.out (fun _ hk => hk.2))); have n2_ := Aside0.mk (hb); have n3_ := Aside0.mk (ho); clear BK292; clear BK294; clear HB; clear HO_13; have BK292 := n0_; have BK294 := n1_; have HB := n2_; have HO302 := n3_; clear n0_ n1_ n2_ n3_; clear ho hb hg hat))
                  go_roundg k2
                  case measure => have := HK1.out; have := HK2.out; omega
                  case rel => exact ⟨(y300), (wrap64 (x14_2 + 1)), sd_, H', ⟨by have := HK1.out; have := HK2.out; omega⟩, ⟨by (with_reducible repeat (first | apply Kd.R_alloc | apply Kd.R_drewN | apply Kd.R_drew)); exact Kd.R_mono HO302.out (fun _ hk => hk.1)⟩, ⟨by (with_reducible repeat (first | refine blk_drewN ?_ _ | refine blk_drew ?_ | refine blk_alloc ?_ _)); exact BK292.out⟩, ⟨by repeat (first | (with_reducible first | exact HB.out | apply below_alloc | apply pw_below_drewN | apply below_drew1 | refine below_set ?_ GE292.out | refine below_set ?_ GE294.out) | exact HB.out)⟩⟩
                 ·rw [if_neg c28] at H
                  exact absurd H (by simp)
                ·rw [if_neg c26] at H
                 have c26b0 : (((rd_T63 l0 x14_2).f1) == ((rd_T63 l0 a2).f0)) = false := beq_eq_false_iff_ne.mpr c26
                 have c26b1 : (((rd_T63 l0 x14_2).f1) != ((rd_T63 l0 a2).f0)) = true := bne_iff_ne.mpr c26
                 by_cases c41 : x13_2.length < 8796093022208
                 ·rw [if_pos c41] at H
                  have LMc41 := Aside0.mk c41
                  clear c41
                  obtain ⟨y303, hy303⟩ : ∃ y_ : List (S38), y_ = (x13_2 ++ [(⟨t290, t291⟩ : S38)]) := ⟨_, rfl⟩
                  replace H : (cohousingref28_equation.l1 k2 l0 l1 a2 x9_1 x10_1 y303 (wrap64 (x14_2 + 1)) t290 t291) = some r := by first | (rw [hy303]; with_reducible exact H) | (have H2_ := (Option.bind_some _ _).symm.trans H; rw [hy303]; with_reducible exact H2_) | (have H2_ := (Option.bind_some _ _).symm.trans H; with_reducible exact H2_) | with_reducible exact H | (rw [hy303]; exact H) | exact H
                  have Ny303 := Aside0.mk hy303
                  clear hy303
                  have H' := Aside0.mk H
                  clear H
                  have p293 : 0 ≤ (x14_2 : Int) := od_
                  have q293 : x14_2 < (l1.length : Int) := od_
                  obtain ⟨ad293, e293, hx293_0, hx293_1⟩ := at_T38 HR1.out x14_2 p293 q293
                  obtain rfl : ad288 = ad293 := (by injection e293)
                  replace hx293_0 := (HB.out.cell (World.block_lt_of_cell? w _ hx293_0)).trans hx293_0
                  replace hx293_1 := (HB.out.cell (World.block_lt_of_cell? w _ hx293_1)).trans hx293_1
                  replace p293 := eq_true p293
                  replace q293 := eq_true q293
                  try go_wp2_with (first | ((with_reducible refine gate_dst (N := 15) rfl ?_); refine box_event ?hg (N := 15) ?hd (cs := #[.int .i64 0, .int .i64 0]) (t := 38) ?hr ?_; (case hd => rfl); (case hg => rfl); (case hr => first | (go_simp; done) | (go_simp; rfl)); intro gb294 hg w42 hbox hb; have n0_ := Aside0.mk (Kd.R_below (Kd.R_elderB (rr_ HO_13) gb294 (Nat.le_of_eq hg.symm)) hb); have n1_ := Aside0.mk (blk_below (g := gb292) (o := .cells #[.int .i64 t290, .int .i64 t291] 38 (0, 0)) (kk_ BK292) hb); have n2_ := Aside0.mk (below_step (bs_ HB GE292.out) hb); have n3_ := Aside0.mk (hbox); have n4_ := Aside0.mk ((by rw [hg]; exact (below_size (bs_ HB GE292.out)) : w.heap.size ≤ gb294)); have n5_ := Aside0.mk ((by rw [hg]; exact (below_size (bs_ HB GE292.out)) : w.heap.size ≤ gb294)); have n6_ := Aside0.mk ((by rw [hg]; exact Nat.ne_of_lt (blk_lt (g := gb292) (o := .cells #[.int .i64 t290, .int .i64 t291] 38 (0, 0)) (kk_ BK292)) : gb292 ≠ gb294)); have n7_ := Aside0.mk ((by rw [hg]; exact Nat.ne_of_gt (blk_lt (g := gb292) (o := .cells #[.int .i64 t290, .int .i64 t291] 38 (0, 0)) (kk_ BK292)) : gb294 ≠ gb292)); clear HO_13; clear BK292; clear HB; have HO_13 := n0_; have BK292 := n1_; have HB := n2_; have BK294 := n3_; have GW294 := n4_; have GE294 := n5_; have NB292_294 := n6_; have NB294_292 := n7_; clear n0_ n1_ n2_ n3_ n4_ n5_ n6_ n7_; clear hb hbox hg; have hnb43 := NB294_292.out; have hnc43 := NB292_294.out; have hcz44_0 : w42.cell? ⟨gb294, 0, none⟩ = some (.int .i64 0) := (blk_cell BK294.out 0).trans rfl; have hcz44_1 : w42.cell? ⟨gb294, 1, none⟩ = some (.int .i64 0) := (blk_cell BK294.out 1).trans rfl; have hfz44_0 := blk_frozen BK294.out 0; have hfz44_1 := blk_frozen BK294.out 1; have hcz45_0 : w42.cell? ⟨gb292, 0, none⟩ = some (.int .i64 t290) := (blk_cell BK292.out 0).trans rfl; have hcz45_1 : w42.cell? ⟨gb292, 1, none⟩ = some (.int .i64 t291) := (blk_cell BK292.out 1).trans rfl; have hfz45_0 := blk_frozen BK292.out 0; have hfz45_1 := blk_frozen BK292.out 1))
                  have n0_ : Aside0 (Kd.R k38 38 ((((w42.setCell ⟨gb294, 0, none⟩ (.int .i64 ((rd_T38 l1 x14_2).f0))).setCell ⟨gb294, 1, none⟩ (.int .i64 ((rd_T38 l1 x14_2).f1))).setCell ⟨gb294, 0, none⟩ (.int .i64 t290)).setCell ⟨gb294, 1, none⟩ (.int .i64 t291)) w.heap.size (fun k_ => k_ ≠ gb292 ∧ k_ ≠ gb294) u13 x13_2) := ⟨by (with_reducible repeat (first | apply Kd.R_alloc | apply Kd.R_drewN | apply Kd.R_drew)); exact Kd.R_mono (Kd.R_far (p := ⟨gb294, 1, none⟩) (Kd.R_far (p := ⟨gb294, 0, none⟩) (Kd.R_far (p := ⟨gb294, 1, none⟩) (Kd.R_far (p := ⟨gb294, 0, none⟩) (Kd.R_mono HO_13.out (fun k_ hk => (⟨hk, hk.2⟩ : _ ∧ k_ ≠ gb294))) (fun _ hk => hk.2) (.int .i64 ((rd_T38 l1 x14_2).f0))) (fun _ hk => hk.2) (.int .i64 ((rd_T38 l1 x14_2).f1))) (fun _ hk => hk.2) (.int .i64 t290)) (fun _ hk => hk.2) (.int .i64 t291)) (fun _ hk => ⟨hk.1.1, hk.1.2⟩)⟩
                  have n1_ : Aside0 (((((w42.setCell ⟨gb294, 0, none⟩ (.int .i64 ((rd_T38 l1 x14_2).f0))).setCell ⟨gb294, 1, none⟩ (.int .i64 ((rd_T38 l1 x14_2).f1))).setCell ⟨gb294, 0, none⟩ (.int .i64 t290)).setCell ⟨gb294, 1, none⟩ (.int .i64 t291)).heap[gb292]? = some (.cells #[.int .i64 t290, .int .i64 t291] 38 (0, 0))) := ⟨by (with_reducible repeat (first | refine blk_drewN ?_ _ | refine blk_drew ?_ | refine blk_alloc ?_ _)); refine blk_far ?_ NB292_294.out _; (with_reducible repeat (first | refine blk_drewN ?_ _ | refine blk_drew ?_ | refine blk_alloc ?_ _)); refine blk_far ?_ NB292_294.out _; (with_reducible repeat (first | refine blk_drewN ?_ _ | refine blk_drew ?_ | refine blk_alloc ?_ _)); refine blk_far ?_ NB292_294.out _; (with_reducible repeat (first | refine blk_drewN ?_ _ | refine blk_drew ?_ | refine blk_alloc ?_ _)); refine blk_far ?_ NB292_294.out _; (with_reducible repeat (first | refine blk_drewN ?_ _ | refine blk_drew ?_ | refine blk_alloc ?_ _)); exact BK292.out⟩
                  have n2_ : Aside0 (((((w42.setCell ⟨gb294, 0, none⟩ (.int .i64 ((rd_T38 l1 x14_2).f0))).setCell ⟨gb294, 1, none⟩ (.int .i64 ((rd_T38 l1 x14_2).f1))).setCell ⟨gb294, 0, none⟩ (.int .i64 t290)).setCell ⟨gb294, 1, none⟩ (.int .i64 t291)).heap[gb294]? = some (.cells #[.int .i64 t290, .int .i64 t291] 38 (0, 0))) := ⟨by (with_reducible repeat (first | refine blk_drewN ?_ _ | refine blk_drew ?_ | refine blk_alloc ?_ _)); refine blk_put (cs := #[.int .i64 t290, .int .i64 ((rd_T38 l1 x14_2).f1)]) ?_ 1 _ rfl; (with_reducible repeat (first | refine blk_drewN ?_ _ | refine blk_drew ?_ | refine blk_alloc ?_ _)); refine blk_put (cs := #[.int .i64 ((rd_T38 l1 x14_2).f0), .int .i64 ((rd_T38 l1 x14_2).f1)]) ?_ 0 _ rfl; (with_reducible repeat (first | refine blk_drewN ?_ _ | refine blk_drew ?_ | refine blk_alloc ?_ _)); refine blk_put (cs := #[.int .i64 ((rd_T38 l1 x14_2).f0), .int .i64 0]) ?_ 1 _ rfl; (with_reducible repeat (first | refine blk_drewN ?_ _ | refine blk_drew ?_ | refine blk_alloc ?_ _)); refine blk_put (cs := #[.int .i64 0, .int .i64 0]) ?_ 0 _ rfl; (with_reducible repeat (first | refine blk_drewN ?_ _ | refine blk_drew ?_ | refine blk_alloc ?_ _)); exact BK294.out⟩
                  have n3_ : Aside0 (Below w.heap.size w ((((w42.setCell ⟨gb294, 0, none⟩ (.int .i64 ((rd_T38 l1 x14_2).f0))).setCell ⟨gb294, 1, none⟩ (.int .i64 ((rd_T38 l1 x14_2).f1))).setCell ⟨gb294, 0, none⟩ (.int .i64 t290)).setCell ⟨gb294, 1, none⟩ (.int .i64 t291))) := ⟨by repeat (first | (with_reducible first | exact HB.out | apply below_alloc | apply pw_below_drewN | apply below_drew1 | refine below_set ?_ GE292.out | refine below_set ?_ GE294.out) | exact HB.out)⟩
                  (try clear HO_13)
                  (try clear BK292)
                  (try clear BK294)
                  (try clear HB)
                  generalize ((((w42.setCell ⟨gb294, 0, none⟩ (.int .i64 ((rd_T38 l1 x14_2).f0))).setCell ⟨gb294, 1, none⟩ (.int .i64 ((rd_T38 l1 x14_2).f1))).setCell ⟨gb294, 0, none⟩ (.int .i64 t290)).setCell ⟨gb294, 1, none⟩ (.int .i64 t291)) = w46 at n0_ n1_ n2_ n3_ ⊢
                  have HO_13 := n0_
                  have BK292 := n1_
                  have BK294 := n2_
                  have HB := n3_
                  clear n0_ n1_ n2_ n3_
                  have n0_ := Aside0.mk (Kd.R_drew HO_13.out)
                  have n1_ := Aside0.mk (blk_drew BK292.out)
                  have n2_ := Aside0.mk (blk_drew BK294.out)
                  have n3_ := Aside0.mk (below_drew1 HB.out)
                  clear HO_13
                  clear BK292
                  clear BK294
                  clear HB
                  have HO_13 := n0_
                  have BK292 := n1_
                  have BK294 := n2_
                  have HB := n3_
                  clear n0_ n1_ n2_ n3_
                  have p295 : 0 ≤ (x14_2 : Int) := od_
                  have q295 : x14_2 < (l0.length : Int) := od_
                  obtain ⟨ad295, e295, hx295_0, hx295_1, hx295_2⟩ := at_T63 HR0.out x14_2 p295 q295
                  have hw295_2 := hx295_2
                  have hw295_1 := hx295_1
                  have hw295_0 := hx295_0
                  obtain rfl : ad289 = ad295 := (by injection e295)
                  replace hx295_0 := (HB.out.cell (World.block_lt_of_cell? w _ hx295_0)).trans hx295_0
                  replace hx295_1 := (HB.out.cell (World.block_lt_of_cell? w _ hx295_1)).trans hx295_1
                  replace hx295_2 := (HB.out.cell (World.block_lt_of_cell? w _ hx295_2)).trans hx295_2
                  replace p295 := eq_true p295
                  replace q295 := eq_true q295
                  have p296 : 0 ≤ (a2 : Int) := od_
                  have q296 : a2 < (l0.length : Int) := od_
                  obtain ⟨ad296, e296, hx296_0, hx296_1, hx296_2⟩ := at_T63 HR0.out a2 p296 q296
                  have hw296_2 := hx296_2
                  have hw296_1 := hx296_1
                  have hw296_0 := hx296_0
                  obtain rfl : ad289 = ad296 := (by injection e296)
                  replace hx296_0 := (HB.out.cell (World.block_lt_of_cell? w _ hx296_0)).trans hx296_0
                  replace hx296_1 := (HB.out.cell (World.block_lt_of_cell? w _ hx296_1)).trans hx296_1
                  replace hx296_2 := (HB.out.cell (World.block_lt_of_cell? w _ hx296_2)).trans hx296_2
                  replace p296 := eq_true p296
                  replace q296 := eq_true q296
                  refine start_ (n := 16) (S := fun w' => w'.cell? (ad289.add ((x14_2).toNat * 3)) = some (.int .i64 ((rd_T63 l0 x14_2).f0)) ∧ w'.cell? ⟨(ad289.add ((x14_2).toNat * 3)).block, (ad289.add ((x14_2).toNat * 3)).off + 1, none⟩ = some (.int .i64 ((rd_T63 l0 x14_2).f1)) ∧ w'.cell? ⟨(ad289.add ((x14_2).toNat * 3)).block, (ad289.add ((x14_2).toNat * 3)).off + 2, none⟩ = some (.int .i64 ((rd_T63 l0 x14_2).f2)) ∧ w'.cell? (ad289.add ((a2).toNat * 3)) = some (.int .i64 ((rd_T63 l0 a2).f0)) ∧ w'.cell? ⟨(ad289.add ((a2).toNat * 3)).block, (ad289.add ((a2).toNat * 3)).off + 1, none⟩ = some (.int .i64 ((rd_T63 l0 a2).f1)) ∧ w'.cell? ⟨(ad289.add ((a2).toNat * 3)).block, (ad289.add ((a2).toNat * 3)).off + 2, none⟩ = some (.int .i64 ((rd_T63 l0 a2).f2))) (ds := []) #[n_, n_, n_, n_, n_, n_, n_, n_, n_, n_, n_, n_, n_, n_, n_, n_] (by kernel_rfl) rfl rfl ⟨((HB.out.cell (World.block_lt_of_cell? w _ hw295_0)).trans hw295_0), ((HB.out.cell (World.block_lt_of_cell? w _ hw295_1)).trans hw295_1), ((HB.out.cell (World.block_lt_of_cell? w _ hw295_2)).trans hw295_2), ((HB.out.cell (World.block_lt_of_cell? w _ hw296_0)).trans hw296_0), ((HB.out.cell (World.block_lt_of_cell? w _ hw296_1)).trans hw296_1), ((HB.out.cell (World.block_lt_of_cell? w _ hw296_2)).trans hw296_2)⟩ (fun hHeld => ?_); refine with_tabW cohousingref28_equation.tab16 cohousingref28_equation.bits16 (fun HT_ HW_ => ?_)
                  generalize w46.drew = w47 at HO_13 BK292 BK294 HB hx295_0 hx295_1 hx295_2 hx296_0 hx296_1 hx296_2 hHeld ⊢
                  refine pu_ 0 69 (w_ 16 1) rfl HT_ ?_
                  refine pu_ 1 70 (w_ 16 3) rfl HT_ ?_
                  refine pu_ 2 71 (w_ 16 7) rfl HT_ ?_
                  refine pu_ 3 72 (w_ 16 15) rfl HT_ ?_
                  refine pu_ 4 73 (w_ 16 31) rfl HT_ ?_
                  refine pu_ 5 74 (w_ 16 63) rfl HT_ ?_
                  refine pu_ 6 75 (w_ 16 127) rfl HT_ ?_
                  refine pu_ 7 76 (w_ 16 255) rfl HT_ ?_
                  refine pu_ 9 78 (w_ 16 767) rfl HT_ ?_
                  refine pu_ 10 79 (w_ 16 1791) rfl HT_ ?_
                  refine pu_ 11 80 (w_ 16 3839) rfl HT_ ?_
                  refine pu_ 12 81 (w_ 16 7935) rfl HT_ ?_
                  refine ta_ 8 77 (w_ 16 8191) rfl HT_ HW_ hHeld (by rintro w' ⟨s0, s1, s2, s3, s4, s5⟩; go_simp; with_reducible rfl) ?_
                  refine ta_ 13 82 (w_ 16 16383) rfl HT_ HW_ hHeld (by rintro w' ⟨s0, s1, s2, s3, s4, s5⟩; go_simp; with_reducible rfl) ?_
                  refine pu_ 14 83 (w_ 16 32767) rfl HT_ ?_
                  refine pu_ 15 84 (w_ 16 65535) rfl HT_ ?_
                  refine done_ (done_of HT_.out (by kernel_rfl)) ?_
                  have hcz48_0 : w47.cell? ⟨gb294, 0, none⟩ = some (.int .i64 t290) := (blk_cell BK294.out 0).trans rfl
                  have hcz48_1 : w47.cell? ⟨gb294, 1, none⟩ = some (.int .i64 t291) := (blk_cell BK294.out 1).trans rfl
                  have hfz48_0 := blk_frozen BK294.out 0
                  have hfz48_1 := blk_frozen BK294.out 1
                  try go_wp2_with (first | ((with_reducible refine gate_builtin (b := .append) (xs := #[.tmp 107, .tmp 109]) rfl ?_); at_builtin; refine Kd.R_append k38 (w0 := w) w.heap.size rfl (.tmp 107) (.tmp 109) 23 38 (.agg #[(.int .i64 0), (.int .i64 0)]) 16 rfl Try.underlying23 info38 rfl (by decide) (by omega) u13 x13_2 (⟨t290, t291⟩ : S38) [.int .i64 t290, .int .i64 t291] (fun k_ => k_ ≠ gb292 ∧ k_ ≠ gb294) (fun _ => False) rfl rfl ?aP (fun _ hk => hk.elim) ?aF ?aO ?aB ?aS ?aL ?_; (case aP => exact k38_mkM _ _ _ (⟨t290, t291⟩ : S38)); (case aB => exact (by repeat (first | (with_reducible first | exact HB.out | apply below_alloc | apply pw_below_drewN | apply below_drew1 | refine below_set ?_ GE292.out | refine below_set ?_ GE294.out) | exact HB.out))); (case aF => exact (fun k_ hk => ⟨Kd.freshB (g := gb292) (o := .cells #[.int .i64 t290, .int .i64 t291] 38 (0, 0)) (kk_ BK292) k_ hk, Kd.freshB (g := gb294) (o := .cells #[.int .i64 t290, .int .i64 t291] 38 (0, 0)) (kk_ BK294) k_ hk⟩)); (case aO => exact (rr_ HO_13)); (case aS => exact (below_size (by repeat (first | (with_reducible first | exact HB.out | apply below_alloc | apply pw_below_drewN | apply below_drew1 | refine below_set ?_ GE292.out | refine below_set ?_ GE294.out) | exact HB.out)))); (case aL => have := LMc41.out; omega); intro v304 w49 ho hb hg hat; rw [← Ny303.out] at ho; have n0_ := Aside0.mk (blk_grown (g := gb292) (o := .cells #[.int .i64 t290, .int .i64 t291] 38 (0, 0)) (kk_ BK292) hg (Kd.R_away HO_13.out (fun _ hk => hk.1))); have n1_ := Aside0.mk (blk_grown (g := gb294) (o := .cells #[.int .i64 t290, .int .i64 t291] 38 (0, 0)) (kk_ BK294) hg (Kd.R_away HO_13.out (fun _ hk => hk.2))); have n2_ := Aside0.mk (hb); have n3_ := Aside0.mk (ho); clear BK292; clear BK294; clear HB; clear HO_13; have BK292 := n0_; have BK294 := n1_; have HB := n2_; have HO305 := n3_; clear n0_ n1_ n2_ n3_; clear ho hb hg hat))
                  go_roundg k2
                  case measure => have := HK1.out; have := HK2.out; omega
                  case rel => exact ⟨(y303), (wrap64 (x14_2 + 1)), sd_, H', ⟨by have := HK1.out; have := HK2.out; omega⟩, ⟨by (with_reducible repeat (first | apply Kd.R_alloc | apply Kd.R_drewN | apply Kd.R_drew)); exact Kd.R_mono HO305.out (fun _ hk => hk.1)⟩, ⟨by (with_reducible repeat (first | refine blk_drewN ?_ _ | refine blk_drew ?_ | refine blk_alloc ?_ _)); exact BK292.out⟩, ⟨by repeat (first | (with_reducible first | exact HB.out | apply below_alloc | apply pw_below_drewN | apply below_drew1 | refine below_set ?_ GE292.out | refine below_set ?_ GE294.out) | exact HB.out)⟩⟩
                 ·rw [if_neg c41] at H
                  exact absurd H (by simp)
               ·rw [if_neg c25] at H
                exact absurd H (by simp)
              ·rw [if_neg c24] at H
               exact absurd H (by simp)
             ·rw [if_neg c23] at H
              exact absurd H (by simp)
            ·rw [if_neg c22] at H
             have c22b0 : decide (a2 < x14_2) = false := decide_eq_false c22
             clear c22
             by_cases c50 : x13_2.length < 8796093022208
             ·rw [if_pos c50] at H
              have LMc50 := Aside0.mk c50
              clear c50
              obtain ⟨y306, hy306⟩ : ∃ y_ : List (S38), y_ = (x13_2 ++ [(⟨t290, t291⟩ : S38)]) := ⟨_, rfl⟩
              replace H : (cohousingref28_equation.l1 k2 l0 l1 a2 x9_1 x10_1 y306 (wrap64 (x14_2 + 1)) t290 t291) = some r := by first | (rw [hy306]; with_reducible exact H) | (have H2_ := (Option.bind_some _ _).symm.trans H; rw [hy306]; with_reducible exact H2_) | (have H2_ := (Option.bind_some _ _).symm.trans H; with_reducible exact H2_) | with_reducible exact H | (rw [hy306]; exact H) | exact H
              have Ny306 := Aside0.mk hy306
              clear hy306
              have H' := Aside0.mk H
              clear H
              have p293 : 0 ≤ (x14_2 : Int) := od_
              have q293 : x14_2 < (l1.length : Int) := od_
              obtain ⟨ad293, e293, hx293_0, hx293_1⟩ := at_T38 HR1.out x14_2 p293 q293
              obtain rfl : ad288 = ad293 := (by injection e293)
              replace hx293_0 := (HB.out.cell (World.block_lt_of_cell? w _ hx293_0)).trans hx293_0
              replace hx293_1 := (HB.out.cell (World.block_lt_of_cell? w _ hx293_1)).trans hx293_1
              replace p293 := eq_true p293
              replace q293 := eq_true q293
              try go_wp2_with (first | ((with_reducible refine gate_dst (N := 15) rfl ?_); refine box_event ?hg (N := 15) ?hd (cs := #[.int .i64 0, .int .i64 0]) (t := 38) ?hr ?_; (case hd => rfl); (case hg => rfl); (case hr => first | (go_simp; done) | (go_simp; rfl)); intro gb294 hg w51 hbox hb; have n0_ := Aside0.mk (Kd.R_below (Kd.R_elderB (rr_ HO_13) gb294 (Nat.le_of_eq hg.symm)) hb); have n1_ := Aside0.mk (blk_below (g := gb292) (o := .cells #[.int .i64 t290, .int .i64 t291] 38 (0, 0)) (kk_ BK292) hb); have n2_ := Aside0.mk (below_step (bs_ HB GE292.out) hb); have n3_ := Aside0.mk (hbox); have n4_ := Aside0.mk ((by rw [hg]; exact (below_size (bs_ HB GE292.out)) : w.heap.size ≤ gb294)); have n5_ := Aside0.mk ((by rw [hg]; exact (below_size (bs_ HB GE292.out)) : w.heap.size ≤ gb294)); have n6_ := Aside0.mk ((by rw [hg]; exact Nat.ne_of_lt (blk_lt (g := gb292) (o := .cells #[.int .i64 t290, .int .i64 t291] 38 (0, 0)) (kk_ BK292)) : gb292 ≠ gb294)); have n7_ := Aside0.mk ((by rw [hg]; exact Nat.ne_of_gt (blk_lt (g := gb292) (o := .cells #[.int .i64 t290, .int .i64 t291] 38 (0, 0)) (kk_ BK292)) : gb294 ≠ gb292)); clear HO_13; clear BK292; clear HB; have HO_13 := n0_; have BK292 := n1_; have HB := n2_; have BK294 := n3_; have GW294 := n4_; have GE294 := n5_; have NB292_294 := n6_; have NB294_292 := n7_; clear n0_ n1_ n2_ n3_ n4_ n5_ n6_ n7_; clear hb hbox hg; have hnb52 := NB294_292.out; have hnc52 := NB292_294.out; have hcz53_0 : w51.cell? ⟨gb294, 0, none⟩ = some (.int .i64 0) := (blk_cell BK294.out 0).trans rfl; have hcz53_1 : w51.cell? ⟨gb294, 1, none⟩ = some (.int .i64 0) := (blk_cell BK294.out 1).trans rfl; have hfz53_0 := blk_frozen BK294.out 0; have hfz53_1 := blk_frozen BK294.out 1; have hcz54_0 : w51.cell? ⟨gb292, 0, none⟩ = some (.int .i64 t290) := (blk_cell BK292.out 0).trans rfl; have hcz54_1 : w51.cell? ⟨gb292, 1, none⟩ = some (.int .i64 t291) := (blk_cell BK292.out 1).trans rfl; have hfz54_0 := blk_frozen BK292.out 0; have hfz54_1 := blk_frozen BK292.out 1))
              have n0_ : Aside0 (Kd.R k38 38 ((((w51.setCell ⟨gb294, 0, none⟩ (.int .i64 ((rd_T38 l1 x14_2).f0))).setCell ⟨gb294, 1, none⟩ (.int .i64 ((rd_T38 l1 x14_2).f1))).setCell ⟨gb294, 0, none⟩ (.int .i64 t290)).setCell ⟨gb294, 1, none⟩ (.int .i64 t291)) w.heap.size (fun k_ => k_ ≠ gb292 ∧ k_ ≠ gb294) u13 x13_2) := ⟨by (with_reducible repeat (first | apply Kd.R_alloc | apply Kd.R_drewN | apply Kd.R_drew)); exact Kd.R_mono (Kd.R_far (p := ⟨gb294, 1, none⟩) (Kd.R_far (p := ⟨gb294, 0, none⟩) (Kd.R_far (p := ⟨gb294, 1, none⟩) (Kd.R_far (p := ⟨gb294, 0, none⟩) (Kd.R_mono HO_13.out (fun k_ hk => (⟨hk, hk.2⟩ : _ ∧ k_ ≠ gb294))) (fun _ hk => hk.2) (.int .i64 ((rd_T38 l1 x14_2).f0))) (fun _ hk => hk.2) (.int .i64 ((rd_T38 l1 x14_2).f1))) (fun _ hk => hk.2) (.int .i64 t290)) (fun _ hk => hk.2) (.int .i64 t291)) (fun _ hk => ⟨hk.1.1, hk.1.2⟩)⟩
              have n1_ : Aside0 (((((w51.setCell ⟨gb294, 0, none⟩ (.int .i64 ((rd_T38 l1 x14_2).f0))).setCell ⟨gb294, 1, none⟩ (.int .i64 ((rd_T38 l1 x14_2).f1))).setCell ⟨gb294, 0, none⟩ (.int .i64 t290)).setCell ⟨gb294, 1, none⟩ (.int .i64 t291)).heap[gb292]? = some (.cells #[.int .i64 t290, .int .i64 t291] 38 (0, 0))) := ⟨by (with_reducible repeat (first | refine blk_drewN ?_ _ | refine blk_drew ?_ | refine blk_alloc ?_ _)); refine blk_far ?_ NB292_294.out _; (with_reducible repeat (first | refine blk_drewN ?_ _ | refine blk_drew ?_ | refine blk_alloc ?_ _)); refine blk_far ?_ NB292_294.out _; (with_reducible repeat (first | refine blk_drewN ?_ _ | refine blk_drew ?_ | refine blk_alloc ?_ _)); refine blk_far ?_ NB292_294.out _; (with_reducible repeat (first | refine blk_drewN ?_ _ | refine blk_drew ?_ | refine blk_alloc ?_ _)); refine blk_far ?_ NB292_294.out _; (with_reducible repeat (first | refine blk_drewN ?_ _ | refine blk_drew ?_ | refine blk_alloc ?_ _)); exact BK292.out⟩
              have n2_ : Aside0 (((((w51.setCell ⟨gb294, 0, none⟩ (.int .i64 ((rd_T38 l1 x14_2).f0))).setCell ⟨gb294, 1, none⟩ (.int .i64 ((rd_T38 l1 x14_2).f1))).setCell ⟨gb294, 0, none⟩ (.int .i64 t290)).setCell ⟨gb294, 1, none⟩ (.int .i64 t291)).heap[gb294]? = some (.cells #[.int .i64 t290, .int .i64 t291] 38 (0, 0))) := ⟨by (with_reducible repeat (first | refine blk_drewN ?_ _ | refine blk_drew ?_ | refine blk_alloc ?_ _)); refine blk_put (cs := #[.int .i64 t290, .int .i64 ((rd_T38 l1 x14_2).f1)]) ?_ 1 _ rfl; (with_reducible repeat (first | refine blk_drewN ?_ _ | refine blk_drew ?_ | refine blk_alloc ?_ _)); refine blk_put (cs := #[.int .i64 ((rd_T38 l1 x14_2).f0), .int .i64 ((rd_T38 l1 x14_2).f1)]) ?_ 0 _ rfl; (with_reducible repeat (first | refine blk_drewN ?_ _ | refine blk_drew ?_ | refine blk_alloc ?_ _)); refine blk_put (cs := #[.int .i64 ((rd_T38 l1 x14_2).f0), .int .i64 0]) ?_ 1 _ rfl; (with_reducible repeat (first | refine blk_drewN ?_ _ | refine blk_drew ?_ | refine blk_alloc ?_ _)); refine blk_put (cs := #[.int .i64 0, .int .i64 0]) ?_ 0 _ rfl; (with_reducible repeat (first | refine blk_drewN ?_ _ | refine blk_drew ?_ | refine blk_alloc ?_ _)); exact BK294.out⟩
              have n3_ : Aside0 (Below w.heap.size w ((((w51.setCell ⟨gb294, 0, none⟩ (.int .i64 ((rd_T38 l1 x14_2).f0))).setCell ⟨gb294, 1, none⟩ (.int .i64 ((rd_T38 l1 x14_2).f1))).setCell ⟨gb294, 0, none⟩ (.int .i64 t290)).setCell ⟨gb294, 1, none⟩ (.int .i64 t291))) := ⟨by repeat (first | (with_reducible first | exact HB.out | apply below_alloc | apply pw_below_drewN | apply below_drew1 | refine below_set ?_ GE292.out | refine below_set ?_ GE294.out) | exact HB.out)⟩
              (try clear HO_13)
              (try clear BK292)
              (try clear BK294)
              (try clear HB)
              generalize ((((w51.setCell ⟨gb294, 0, none⟩ (.int .i64 ((rd_T38 l1 x14_2).f0))).setCell ⟨gb294, 1, none⟩ (.int .i64 ((rd_T38 l1 x14_2).f1))).setCell ⟨gb294, 0, none⟩ (.int .i64 t290)).setCell ⟨gb294, 1, none⟩ (.int .i64 t291)) = w55 at n0_ n1_ n2_ n3_ ⊢
              have HO_13 := n0_
              have BK292 := n1_
              have BK294 := n2_
              have HB := n3_
              clear n0_ n1_ n2_ n3_
              have n0_ := Aside0.mk (Kd.R_drew HO_13.out)
              have n1_ := Aside0.mk (blk_drew BK292.out)
              have n2_ := Aside0.mk (blk_drew BK294.out)
              have n3_ := Aside0.mk (below_drew1 HB.out)
              clear HO_13
              clear BK292
              clear BK294
              clear HB
              have HO_13 := n0_
              have BK292 := n1_
              have BK294 := n2_
              have HB := n3_
              clear n0_ n1_ n2_ n3_
              refine start_ (n := 16) (S := fun w' => True) (ds := []) #[n_, n_, n_, n_, n_, n_, n_, n_, n_, n_, n_, n_, n_, n_, n_, n_] (by kernel_rfl) rfl rfl trivial (fun hHeld => ?_); refine with_tabW cohousingref28_equation.tab16 cohousingref28_equation.bits16 (fun HT_ HW_ => ?_)
              generalize w55.drew = w56 at HO_13 BK292 BK294 HB hHeld ⊢
              refine pu_ 0 69 (w_ 16 1) rfl HT_ ?_
              refine pu_ 1 70 (w_ 16 3) rfl HT_ ?_
              refine pu_ 2 71 (w_ 16 7) rfl HT_ ?_
              refine pu_ 3 72 (w_ 16 15) rfl HT_ ?_
              refine pn_ 4 73 (w_ 16 31) rfl HT_ ?_
              refine pn_ 5 74 (w_ 16 63) rfl HT_ ?_
              refine pn_ 6 75 (w_ 16 127) rfl HT_ ?_
              refine pn_ 7 76 (w_ 16 255) rfl HT_ ?_
              refine pn_ 8 77 (w_ 16 511) rfl HT_ ?_
              refine pn_ 9 78 (w_ 16 1023) rfl HT_ ?_
              refine pn_ 10 79 (w_ 16 2047) rfl HT_ ?_
              refine pn_ 11 80 (w_ 16 4095) rfl HT_ ?_
              refine pn_ 12 81 (w_ 16 8191) rfl HT_ ?_
              refine pn_ 13 82 (w_ 16 16383) rfl HT_ ?_
              refine pn_ 14 83 (w_ 16 32767) rfl HT_ ?_
              refine pu_ 15 84 (w_ 16 65535) rfl HT_ ?_
              refine done_ (done_of HT_.out (by kernel_rfl)) ?_
              have hcz57_0 : w56.cell? ⟨gb294, 0, none⟩ = some (.int .i64 t290) := (blk_cell BK294.out 0).trans rfl
              have hcz57_1 : w56.cell? ⟨gb294, 1, none⟩ = some (.int .i64 t291) := (blk_cell BK294.out 1).trans rfl
              have hfz57_0 := blk_frozen BK294.out 0
              have hfz57_1 := blk_frozen BK294.out 1
              try go_wp2_with (first | ((with_reducible refine gate_builtin (b := .append) (xs := #[.tmp 107, .tmp 109]) rfl ?_); at_builtin; refine Kd.R_append k38 (w0 := w) w.heap.size rfl (.tmp 107) (.tmp 109) 23 38 (.agg #[(.int .i64 0), (.int .i64 0)]) 16 rfl Try.underlying23 info38 rfl (by decide) (by omega) u13 x13_2 (⟨t290, t291⟩ : S38) [.int .i64 t290, .int .i64 t291] (fun k_ => k_ ≠ gb292 ∧ k_ ≠ gb294) (fun _ => False) rfl rfl ?aP (fun _ hk => hk.elim) ?aF ?aO ?aB ?aS ?aL ?_; (case aP => exact k38_mkM _ _ _ (⟨t290, t291⟩ : S38)); (case aB => exact (by repeat (first | (with_reducible first | exact HB.out | apply below_alloc | apply pw_below_drewN | apply below_drew1 | refine below_set ?_ GE292.out | refine below_set ?_ GE294.out) | exact HB.out))); (case aF => exact (fun k_ hk => ⟨Kd.freshB (g := gb292) (o := .cells #[.int .i64 t290, .int .i64 t291] 38 (0, 0)) (kk_ BK292) k_ hk, Kd.freshB (g := gb294) (o := .cells #[.int .i64 t290, .int .i64 t291] 38 (0, 0)) (kk_ BK294) k_ hk⟩)); (case aO => exact (rr_ HO_13)); (case aS => exact (below_size (by repeat (first | (with_reducible first | exact HB.out | apply below_alloc | apply pw_below_drewN | apply below_drew1 | refine below_set ?_ GE292.out | refine below_set ?_ GE294.out) | exact HB.out)))); (case aL => have := LMc50.out; omega); intro v307 w58 ho hb hg hat; rw [← Ny306.out] at ho; have n0_ := Aside0.mk (blk_grown (g := gb292) (o := .cells #[.int .i64 t290, .int .i64 t291] 38 (0, 0)) (kk_ BK292) hg (Kd.R_away HO_13.out (fun _ hk => hk.1))); have n1_ := Aside0.mk (blk_grown (g := gb294) (o := .cells #[.int .i64 t290, .int .i64 t291] 38 (0, 0)) (kk_ BK294) hg (Kd.R_away HO_13.out (fun _ hk => hk.2))); have n2_ := Aside0.mk (hb); have n3_ := Aside0.mk (ho); clear BK292; clear BK294; clear HB; clear HO_13; have BK292 := n0_; have BK294 := n1_; have HB := n2_; have HO308 := n3_; clear n0_ n1_ n2_ n3_; clear ho hb hg hat))
              go_roundg k2
              case measure => have := HK1.out; have := HK2.out; omega
              case rel => exact ⟨(y306), (wrap64 (x14_2 + 1)), sd_, H', ⟨by have := HK1.out; have := HK2.out; omega⟩, ⟨by (with_reducible repeat (first | apply Kd.R_alloc | apply Kd.R_drewN | apply Kd.R_drew)); exact Kd.R_mono HO308.out (fun _ hk => hk.1)⟩, ⟨by (with_reducible repeat (first | refine blk_drewN ?_ _ | refine blk_drew ?_ | refine blk_alloc ?_ _)); exact BK292.out⟩, ⟨by repeat (first | (with_reducible first | exact HB.out | apply below_alloc | apply pw_below_drewN | apply below_drew1 | refine below_set ?_ GE292.out | refine below_set ?_ GE294.out) | exact HB.out)⟩⟩
             ·rw [if_neg c50] at H
              exact absurd H (by simp)
           ·rw [if_neg c21] at H
            have c21b0 : (x14_2 == a2) = false := beq_eq_false_iff_ne.mpr c21
            have c21b1 : (x14_2 != a2) = true := bne_iff_ne.mpr c21
            by_cases c59 : x14_2 > a2
            ·rw [if_pos c59] at H
             have c59b0 : decide (a2 < x14_2) = true := decide_eq_true c59
             clear c59
             by_cases c60 : x14_2 < (l0.length : Int)
             ·rw [if_pos c60] at H
              have c60b0 : decide (x14_2 < (l0.length : Int)) = true := decide_eq_true c60
              clear c60
              by_cases c61 : 0 ≤ a2
              ·rw [if_pos c61] at H
               have c61b0 : decide (0 ≤ a2) = true := decide_eq_true c61
               clear c61
               by_cases c62 : a2 < (l0.length : Int)
               ·rw [if_pos c62] at H
                have c62b0 : decide (a2 < (l0.length : Int)) = true := decide_eq_true c62
                clear c62
                by_cases c63 : ((rd_T63 l0 x14_2).f1) = ((rd_T63 l0 a2).f0)
                ·rw [if_pos c63] at H
                 have c63b0 : (((rd_T63 l0 x14_2).f1) == ((rd_T63 l0 a2).f0)) = true := beq_iff_eq.mpr c63
                 have c63b1 : (((rd_T63 l0 x14_2).f1) != ((rd_T63 l0 a2).f0)) = false := bne_eq_false_iff_eq.mpr c63
                 clear c63
                 replace H := Option.bind_eq_some_iff.mp H
                 obtain ⟨⟨t312, t313⟩, A640, H⟩ := H
                 replace H : (if x13_2.length < 8796093022208 then (cohousingref28_equation.l1 k2 l0 l1 a2 x9_1 x10_1 (x13_2 ++ [(⟨t312, t313⟩ : S38)]) (wrap64 (x14_2 + 1)) t290 t291) else (none)) = some r := H
                 have A64 := Aside0.mk A640
                 clear A640
                 by_cases c65 : x13_2.length < 8796093022208
                 ·rw [if_pos c65] at H
                  have LMc65 := Aside0.mk c65
                  clear c65
                  obtain ⟨y314, hy314⟩ : ∃ y_ : List (S38), y_ = (x13_2 ++ [(⟨t312, t313⟩ : S38)]) := ⟨_, rfl⟩
                  replace H : (cohousingref28_equation.l1 k2 l0 l1 a2 x9_1 x10_1 y314 (wrap64 (x14_2 + 1)) t290 t291) = some r := by first | (rw [hy314]; with_reducible exact H) | (have H2_ := (Option.bind_some _ _).symm.trans H; rw [hy314]; with_reducible exact H2_) | (have H2_ := (Option.bind_some _ _).symm.trans H; with_reducible exact H2_) | with_reducible exact H | (rw [hy314]; exact H) | exact H
                  have Ny314 := Aside0.mk hy314
                  clear hy314
                  have H' := Aside0.mk H
                  clear H
                  have p293 : 0 ≤ (x14_2 : Int) := od_
                  have q293 : x14_2 < (l1.length : Int) := od_
                  obtain ⟨ad293, e293, hx293_0, hx293_1⟩ := at_T38 HR1.out x14_2 p293 q293
                  obtain rfl : ad288 = ad293 := (by injection e293)
                  replace hx293_0 := (HB.out.cell (World.block_lt_of_cell? w _ hx293_0)).trans hx293_0
                  replace hx293_1 := (HB.out.cell (World.block_lt_of_cell? w _ hx293_1)).trans hx293_1
                  replace p293 := eq_true p293
                  replace q293 := eq_true q293
                  try go_wp2_with (first | ((with_reducible refine gate_dst (N := 15) rfl ?_); refine box_event ?hg (N := 15) ?hd (cs := #[.int .i64 0, .int .i64 0]) (t := 38) ?hr ?_; (case hd => rfl); (case hg => rfl); (case hr => first | (go_simp; done) | (go_simp; rfl)); intro gb294 hg w66 hbox hb; have n0_ := Aside0.mk (Kd.R_below (Kd.R_elderB (rr_ HO_13) gb294 (Nat.le_of_eq hg.symm)) hb); have n1_ := Aside0.mk (blk_below (g := gb292) (o := .cells #[.int .i64 t290, .int .i64 t291] 38 (0, 0)) (kk_ BK292) hb); have n2_ := Aside0.mk (below_step (bs_ HB GE292.out) hb); have n3_ := Aside0.mk (hbox); have n4_ := Aside0.mk ((by rw [hg]; exact (below_size (bs_ HB GE292.out)) : w.heap.size ≤ gb294)); have n5_ := Aside0.mk ((by rw [hg]; exact (below_size (bs_ HB GE292.out)) : w.heap.size ≤ gb294)); have n6_ := Aside0.mk ((by rw [hg]; exact Nat.ne_of_lt (blk_lt (g := gb292) (o := .cells #[.int .i64 t290, .int .i64 t291] 38 (0, 0)) (kk_ BK292)) : gb292 ≠ gb294)); have n7_ := Aside0.mk ((by rw [hg]; exact Nat.ne_of_gt (blk_lt (g := gb292) (o := .cells #[.int .i64 t290, .int .i64 t291] 38 (0, 0)) (kk_ BK292)) : gb294 ≠ gb292)); clear HO_13; clear BK292; clear HB; have HO_13 := n0_; have BK292 := n1_; have HB := n2_; have BK294 := n3_; have GW294 := n4_; have GE294 := n5_; have NB292_294 := n6_; have NB294_292 := n7_; clear n0_ n1_ n2_ n3_ n4_ n5_ n6_ n7_; clear hb hbox hg; have hnb67 := NB294_292.out; have hnc67 := NB292_294.out; have hcz68_0 : w66.cell? ⟨gb294, 0, none⟩ = some (.int .i64 0) := (blk_cell BK294.out 0).trans rfl; have hcz68_1 : w66.cell? ⟨gb294, 1, none⟩ = some (.int .i64 0) := (blk_cell BK294.out 1).trans rfl; have hfz68_0 := blk_frozen BK294.out 0; have hfz68_1 := blk_frozen BK294.out 1))
                  have n0_ : Aside0 (Kd.R k38 38 ((w66.setCell ⟨gb294, 0, none⟩ (.int .i64 ((rd_T38 l1 x14_2).f0))).setCell ⟨gb294, 1, none⟩ (.int .i64 ((rd_T38 l1 x14_2).f1))) w.heap.size (fun k_ => k_ ≠ gb292 ∧ k_ ≠ gb294) u13 x13_2) := ⟨by (with_reducible repeat (first | apply Kd.R_alloc | apply Kd.R_drewN | apply Kd.R_drew)); exact Kd.R_mono (Kd.R_far (p := ⟨gb294, 1, none⟩) (Kd.R_far (p := ⟨gb294, 0, none⟩) (Kd.R_mono HO_13.out (fun k_ hk => (⟨hk, hk.2⟩ : _ ∧ k_ ≠ gb294))) (fun _ hk => hk.2) (.int .i64 ((rd_T38 l1 x14_2).f0))) (fun _ hk => hk.2) (.int .i64 ((rd_T38 l1 x14_2).f1))) (fun _ hk => ⟨hk.1.1, hk.1.2⟩)⟩
                  have n1_ : Aside0 (((w66.setCell ⟨gb294, 0, none⟩ (.int .i64 ((rd_T38 l1 x14_2).f0))).setCell ⟨gb294, 1, none⟩ (.int .i64 ((rd_T38 l1 x14_2).f1))).heap[gb292]? = some (.cells #[.int .i64 t290, .int .i64 t291] 38 (0, 0))) := ⟨by (with_reducible repeat (first | refine blk_drewN ?_ _ | refine blk_drew ?_ | refine blk_alloc ?_ _)); refine blk_far ?_ NB292_294.out _; (with_reducible repeat (first | refine blk_drewN ?_ _ | refine blk_drew ?_ | refine blk_alloc ?_ _)); refine blk_far ?_ NB292_294.out _; (with_reducible repeat (first | refine blk_drewN ?_ _ | refine blk_drew ?_ | refine blk_alloc ?_ _)); exact BK292.out⟩
                  have n2_ : Aside0 (((w66.setCell ⟨gb294, 0, none⟩ (.int .i64 ((rd_T38 l1 x14_2).f0))).setCell ⟨gb294, 1, none⟩ (.int .i64 ((rd_T38 l1 x14_2).f1))).heap[gb294]? = some (.cells #[.int .i64 ((rd_T38 l1 x14_2).f0), .int .i64 ((rd_T38 l1 x14_2).f1)] 38 (0, 0))) := ⟨by (with_reducible repeat (first | refine blk_drewN ?_ _ | refine blk_drew ?_ | refine blk_alloc ?_ _)); refine blk_put (cs := #[.int .i64 ((rd_T38 l1 x14_2).f0), .int .i64 0]) ?_ 1 _ rfl; (with_reducible repeat (first | refine blk_drewN ?_ _ | refine blk_drew ?_ | refine blk_alloc ?_ _)); refine blk_put (cs := #[.int .i64 0, .int .i64 0]) ?_ 0 _ rfl; (with_reducible repeat (first | refine blk_drewN ?_ _ | refine blk_drew ?_ | refine blk_alloc ?_ _)); exact BK294.out⟩
                  have n3_ : Aside0 (Below w.heap.size w ((w66.setCell ⟨gb294, 0, none⟩ (.int .i64 ((rd_T38 l1 x14_2).f0))).setCell ⟨gb294, 1, none⟩ (.int .i64 ((rd_T38 l1 x14_2).f1)))) := ⟨by repeat (first | (with_reducible first | exact HB.out | apply below_alloc | apply pw_below_drewN | apply below_drew1 | refine below_set ?_ GE292.out | refine below_set ?_ GE294.out) | exact HB.out)⟩
                  (try clear HO_13)
                  (try clear BK292)
                  (try clear BK294)
                  (try clear HB)
                  generalize ((w66.setCell ⟨gb294, 0, none⟩ (.int .i64 ((rd_T38 l1 x14_2).f0))).setCell ⟨gb294, 1, none⟩ (.int .i64 ((rd_T38 l1 x14_2).f1))) = w69 at n0_ n1_ n2_ n3_ ⊢
                  have HO_13 := n0_
                  have BK292 := n1_
                  have BK294 := n2_
                  have HB := n3_
                  clear n0_ n1_ n2_ n3_
                  have n0_ := Aside0.mk (Kd.R_drew HO_13.out)
                  have n1_ := Aside0.mk (blk_drew BK292.out)
                  have n2_ := Aside0.mk (blk_drew BK294.out)
                  have n3_ := Aside0.mk (below_drew1 HB.out)
                  clear HO_13
                  clear BK292
                  clear BK294
                  clear HB
                  have HO_13 := n0_
                  have BK292 := n1_
                  have BK294 := n2_
                  have HB := n3_
                  clear n0_ n1_ n2_ n3_
                  have p309 : 0 ≤ (x14_2 : Int) := od_
                  have q309 : x14_2 < (l0.length : Int) := od_
                  obtain ⟨ad309, e309, hx309_0, hx309_1, hx309_2⟩ := at_T63 HR0.out x14_2 p309 q309
                  have hw309_2 := hx309_2
                  have hw309_1 := hx309_1
                  have hw309_0 := hx309_0
                  obtain rfl : ad289 = ad309 := (by injection e309)
                  replace hx309_0 := (HB.out.cell (World.block_lt_of_cell? w _ hx309_0)).trans hx309_0
                  replace hx309_1 := (HB.out.cell (World.block_lt_of_cell? w _ hx309_1)).trans hx309_1
                  replace hx309_2 := (HB.out.cell (World.block_lt_of_cell? w _ hx309_2)).trans hx309_2
                  replace p309 := eq_true p309
                  replace q309 := eq_true q309
                  have p310 : 0 ≤ (a2 : Int) := od_
                  have q310 : a2 < (l0.length : Int) := od_
                  obtain ⟨ad310, e310, hx310_0, hx310_1, hx310_2⟩ := at_T63 HR0.out a2 p310 q310
                  have hw310_2 := hx310_2
                  have hw310_1 := hx310_1
                  have hw310_0 := hx310_0
                  obtain rfl : ad289 = ad310 := (by injection e310)
                  replace hx310_0 := (HB.out.cell (World.block_lt_of_cell? w _ hx310_0)).trans hx310_0
                  replace hx310_1 := (HB.out.cell (World.block_lt_of_cell? w _ hx310_1)).trans hx310_1
                  replace hx310_2 := (HB.out.cell (World.block_lt_of_cell? w _ hx310_2)).trans hx310_2
                  replace p310 := eq_true p310
                  replace q310 := eq_true q310
                  refine start_ (n := 16) (S := fun w' => w'.cell? (ad289.add ((x14_2).toNat * 3)) = some (.int .i64 ((rd_T63 l0 x14_2).f0)) ∧ w'.cell? ⟨(ad289.add ((x14_2).toNat * 3)).block, (ad289.add ((x14_2).toNat * 3)).off + 1, none⟩ = some (.int .i64 ((rd_T63 l0 x14_2).f1)) ∧ w'.cell? ⟨(ad289.add ((x14_2).toNat * 3)).block, (ad289.add ((x14_2).toNat * 3)).off + 2, none⟩ = some (.int .i64 ((rd_T63 l0 x14_2).f2)) ∧ w'.cell? (ad289.add ((a2).toNat * 3)) = some (.int .i64 ((rd_T63 l0 a2).f0)) ∧ w'.cell? ⟨(ad289.add ((a2).toNat * 3)).block, (ad289.add ((a2).toNat * 3)).off + 1, none⟩ = some (.int .i64 ((rd_T63 l0 a2).f1)) ∧ w'.cell? ⟨(ad289.add ((a2).toNat * 3)).block, (ad289.add ((a2).toNat * 3)).off + 2, none⟩ = some (.int .i64 ((rd_T63 l0 a2).f2))) (ds := []) #[n_, n_, n_, n_, n_, n_, n_, n_, n_, n_, n_, n_, n_, n_, n_, n_] (by kernel_rfl) rfl rfl ⟨((HB.out.cell (World.block_lt_of_cell? w _ hw309_0)).trans hw309_0), ((HB.out.cell (World.block_lt_of_cell? w _ hw309_1)).trans hw309_1), ((HB.out.cell (World.block_lt_of_cell? w _ hw309_2)).trans hw309_2), ((HB.out.cell (World.block_lt_of_cell? w _ hw310_0)).trans hw310_0), ((HB.out.cell (World.block_lt_of_cell? w _ hw310_1)).trans hw310_1), ((HB.out.cell (World.block_lt_of_cell? w _ hw310_2)).trans hw310_2)⟩ (fun hHeld => ?_); refine with_tabW cohousingref28_equation.tab16 cohousingref28_equation.bits16 (fun HT_ HW_ => ?_)
                  generalize w69.drew = w70 at HO_13 BK292 BK294 HB hx309_0 hx309_1 hx309_2 hx310_0 hx310_1 hx310_2 hHeld ⊢
                  refine pu_ 0 69 (w_ 16 1) rfl HT_ ?_
                  refine pu_ 1 70 (w_ 16 3) rfl HT_ ?_
                  refine pu_ 2 71 (w_ 16 7) rfl HT_ ?_
                  refine pu_ 3 72 (w_ 16 15) rfl HT_ ?_
                  refine pu_ 4 73 (w_ 16 31) rfl HT_ ?_
                  refine pu_ 5 74 (w_ 16 63) rfl HT_ ?_
                  refine pu_ 6 75 (w_ 16 127) rfl HT_ ?_
                  refine pu_ 7 76 (w_ 16 255) rfl HT_ ?_
                  refine pu_ 9 78 (w_ 16 767) rfl HT_ ?_
                  refine pu_ 10 79 (w_ 16 1791) rfl HT_ ?_
                  refine pu_ 11 80 (w_ 16 3839) rfl HT_ ?_
                  refine pu_ 12 81 (w_ 16 7935) rfl HT_ ?_
                  refine ta_ 8 77 (w_ 16 8191) rfl HT_ HW_ hHeld (by rintro w' ⟨s0, s1, s2, s3, s4, s5⟩; go_simp; with_reducible rfl) ?_
                  refine ta_ 13 82 (w_ 16 16383) rfl HT_ HW_ hHeld (by rintro w' ⟨s0, s1, s2, s3, s4, s5⟩; go_simp; with_reducible rfl) ?_
                  refine pu_ 14 83 (w_ 16 32767) rfl HT_ ?_
                  refine pu_ 15 84 (w_ 16 65535) rfl HT_ ?_
                  refine done_ (done_of HT_.out (by kernel_rfl)) ?_
                  try go_wp2
                  have n0_ := Aside0.mk (Kd.R_drew HO_13.out)
                  have n1_ := Aside0.mk (blk_drew BK292.out)
                  have n2_ := Aside0.mk (blk_drew BK294.out)
                  have n3_ := Aside0.mk (below_drew1 HB.out)
                  clear HO_13
                  clear BK292
                  clear BK294
                  clear HB
                  have HO_13 := n0_
                  have BK292 := n1_
                  have BK294 := n2_
                  have HB := n3_
                  clear n0_ n1_ n2_ n3_
                  have p311 : 0 ≤ (a2 : Int) := od_
                  have q311 : a2 < (l0.length : Int) := od_
                  obtain ⟨ad311, e311, hx311_0, hx311_1, hx311_2⟩ := at_T63 HR0.out a2 p311 q311
                  have hw311_2 := hx311_2
                  have hw311_1 := hx311_1
                  have hw311_0 := hx311_0
                  obtain rfl : ad289 = ad311 := (by injection e311)
                  replace hx311_0 := (HB.out.cell (World.block_lt_of_cell? w _ hx311_0)).trans hx311_0
                  replace hx311_1 := (HB.out.cell (World.block_lt_of_cell? w _ hx311_1)).trans hx311_1
                  replace hx311_2 := (HB.out.cell (World.block_lt_of_cell? w _ hx311_2)).trans hx311_2
                  replace p311 := eq_true p311
                  replace q311 := eq_true q311
                  refine start_ (n := 23) (S := fun w' => w'.cell? ⟨gb294, 0, none⟩ = some (.int .i64 ((rd_T38 l1 x14_2).f0)) ∧ w'.cell? ⟨gb294, 1, none⟩ = some (.int .i64 ((rd_T38 l1 x14_2).f1)) ∧ w'.cell? ⟨gb292, 0, none⟩ = some (.int .i64 t290) ∧ w'.cell? ⟨gb292, 1, none⟩ = some (.int .i64 t291) ∧ w'.cell? (ad289.add ((a2).toNat * 3)) = some (.int .i64 ((rd_T63 l0 a2).f0)) ∧ w'.cell? ⟨(ad289.add ((a2).toNat * 3)).block, (ad289.add ((a2).toNat * 3)).off + 1, none⟩ = some (.int .i64 ((rd_T63 l0 a2).f1)) ∧ w'.cell? ⟨(ad289.add ((a2).toNat * 3)).block, (ad289.add ((a2).toNat * 3)).off + 2, none⟩ = some (.int .i64 ((rd_T63 l0 a2).f2))) (ds := [22]) #[n_, n_, n_, n_, n_, n_, n_, n_, n_, n_, n_, n_, n_, n_, n_, n_, n_, n_, n_, n_, n_, n_, n_] (by kernel_rfl) rfl rfl ⟨(blk_cell BK294.out 0).trans rfl, (blk_cell BK294.out 1).trans rfl, (blk_cell BK292.out 0).trans rfl, (blk_cell BK292.out 1).trans rfl, ((HB.out.cell (World.block_lt_of_cell? w _ hw311_0)).trans hw311_0), ((HB.out.cell (World.block_lt_of_cell? w _ hw311_1)).trans hw311_1), ((HB.out.cell (World.block_lt_of_cell? w _ hw311_2)).trans hw311_2)⟩ (fun hHeld => ?_); refine with_tabW cohousingref28_equation.tab17 cohousingref28_equation.bits17 (fun HT_ HW_ => ?_)
                  generalize w70.drew = w71 at HO_13 BK292 BK294 HB hx311_0 hx311_1 hx311_2 hHeld ⊢
                  refine pu_ 1 86 (w_ 23 2) rfl HT_ ?_
                  refine pu_ 3 88 (w_ 23 10) rfl HT_ ?_
                  refine pu_ 4 89 (w_ 23 26) rfl HT_ ?_
                  refine pu_ 5 90 (w_ 23 58) rfl HT_ ?_
                  refine pu_ 6 91 (w_ 23 122) rfl HT_ ?_
                  refine pu_ 9 94 (w_ 23 634) rfl HT_ ?_
                  refine pu_ 10 95 (w_ 23 1658) rfl HT_ ?_
                  refine pu_ 14 99 (w_ 23 18042) rfl HT_ ?_
                  refine pu_ 16 101 (w_ 23 83578) rfl HT_ ?_
                  refine pu_ 17 102 (w_ 23 214650) rfl HT_ ?_
                  refine ta_ 0 85 (w_ 23 214651) rfl HT_ HW_ hHeld (by rintro w' ⟨s0, s1, s2, s3, s4, s5, s6⟩; go_simp; with_reducible rfl) ?_
                  refine ta_ 2 87 (w_ 23 214655) rfl HT_ HW_ hHeld (by rintro w' ⟨s0, s1, s2, s3, s4, s5, s6⟩; go_simp; with_reducible rfl) ?_
                  refine ta_ 7 92 (w_ 23 214783) rfl HT_ HW_ hHeld (by rintro w' ⟨s0, s1, s2, s3, s4, s5, s6⟩; go_simp; with_reducible rfl) ?_
                  refine pu_ 8 93 (w_ 23 215039) rfl HT_ ?_
                  refine ta_ 11 96 (w_ 23 217087) rfl HT_ HW_ hHeld (by rintro w' ⟨s0, s1, s2, s3, s4, s5, s6⟩; go_simp; with_reducible rfl) ?_
                  refine pu_ 12 97 (w_ 23 221183) rfl HT_ ?_
                  refine pu_ 13 98 (w_ 23 229375) rfl HT_ ?_
                  refine ta_ 15 100 (w_ 23 262143) rfl HT_ HW_ hHeld (by rintro w' ⟨s0, s1, s2, s3, s4, s5, s6⟩; go_simp; with_reducible rfl) ?_
                  refine ta_ 18 103 (w_ 23 524287) rfl HT_ HW_ hHeld (by rintro w' ⟨s0, s1, s2, s3, s4, s5, s6⟩; go_simp; with_reducible rfl) ?_
                  refine pu_ 19 104 (w_ 23 1048575) rfl HT_ ?_
                  refine pu_ 20 105 (w_ 23 2097151) rfl HT_ ?_
                  refine one_ (i := 21) (N := some 106) (w_ 23 4194303) rfl rfl (one_of HT_.out (by kernel_rfl)) (by decide) (fun K hK => ?_)
                  refine goes_ Try.func96 (by kernel_rfl) rfl #[.agg #[.int .i64 ((rd_T38 l1 x14_2).f0), .int .i64 ((rd_T38 l1 x14_2).f1)], .int .i64 (wrap64 ((wrap64 (t290 - ((rd_T63 l0 a2).f2))) - (wrap64 (x10_1 - ((rd_T38 l1 x14_2).f1))))), .int .i64 (wrap64 (t291 - (wrap64 (x9_1 - ((rd_T38 l1 x14_2).f0)))))] (by rfl) rfl rfl (by (try simp only [List.map_toArray, List.map_cons, List.map_nil]); first | done | rfl | (simp only [List.length_drop, List.length_take]; rfl)) ?_
                  with_reducible refine (cohousingref28_narrow.calls ((rd_T38 l1 x14_2).f0) ((rd_T38 l1 x14_2).f1) (wrap64 ((wrap64 (t290 - ((rd_T63 l0 a2).f2))) - (wrap64 (x10_1 - ((rd_T38 l1 x14_2).f1))))) (wrap64 (t291 - (wrap64 (x9_1 - ((rd_T38 l1 x14_2).f0))))) t312 t313 _ A64.out).mono ?_
                  rintro e w72 ⟨rfl, hb⟩
                  refine ⟨_, rfl, ?_⟩
                  have n0_ := Aside0.mk (Kd.R_below (rr_ HO_13) hb)
                  have n1_ := Aside0.mk (blk_below (g := gb292) (o := .cells #[.int .i64 t290, .int .i64 t291] 38 (0, 0)) (kk_ BK292) hb)
                  have n2_ := Aside0.mk (blk_below (g := gb294) (o := .cells #[.int .i64 ((rd_T38 l1 x14_2).f0), .int .i64 ((rd_T38 l1 x14_2).f1)] 38 (0, 0)) (kk_ BK294) hb)
                  have n3_ := Aside0.mk (below_step (by repeat (first | (with_reducible first | exact HB.out | apply below_alloc | apply pw_below_drewN | apply below_drew1 | refine below_set ?_ GE292.out | refine below_set ?_ GE294.out) | exact HB.out)) hb)
                  clear HO_13
                  clear BK292
                  clear BK294
                  clear HB
                  have HO_13 := n0_
                  have BK292 := n1_
                  have BK294 := n2_
                  have HB := n3_
                  clear n0_ n1_ n2_ n3_
                  (try clear hb)
                  (try clear hb2)
                  (try clear hk)
                  (try clear hi)
                  refine hK.out _ _ ⟨(blk_cell BK294.out 0).trans rfl, (blk_cell BK294.out 1).trans rfl, (blk_cell BK292.out 0).trans rfl, (blk_cell BK292.out 1).trans rfl, ((HB.out.cell (World.block_lt_of_cell? w _ hw311_0)).trans hw311_0), ((HB.out.cell (World.block_lt_of_cell? w _ hw311_1)).trans hw311_1), ((HB.out.cell (World.block_lt_of_cell? w _ hw311_2)).trans hw311_2)⟩ (fun hHeld => ?_)
                  clear hK K
                  refine norm_ (a' := ?_) ?_ ?_
                  rotate_left
                  ·show Act.put _ (some 106) _ = _
                   simp only [Act.put, sI_, s0_, sS_, i64_w, i32_w]
                   rfl
                  refine last_ (i := 22) (N := none) (w_ 23 8388607) rfl rfl (one_of HT_.out (by kernel_rfl)) (by decide) (fun K hK => ?_)
                  have hs73 : w72.cell? ⟨gb294, 0, none⟩ = some (.int .i64 ((rd_T38 l1 x14_2).f0)) := (blk_cell BK294.out 0).trans rfl
                  have hfs73 := blk_frozen BK294.out 0
                  have hns73_0 := NB292_294.out
                  have hms73_0 := NB294_292.out
                  have hs74 : w72.cell? ⟨gb294, 1, none⟩ = some (.int .i64 ((rd_T38 l1 x14_2).f1)) := (blk_cell BK294.out 1).trans rfl
                  have hfs74 := blk_frozen BK294.out 1
                  have hns74_0 := NB292_294.out
                  have hms74_0 := NB294_292.out
                  refine skip_ (w1 := ?_) (by rfl) rfl ?_ ?_
                  rotate_left
                  ·go_simp
                   rfl
                  refine hK.out _ _ ?_
                  clear hK K
                  refine done_ (done_of HT_.out (by kernel_rfl)) ?_
                  have hcz75_0 : w72.cell? ⟨gb294, 0, none⟩ = some (.int .i64 ((rd_T38 l1 x14_2).f0)) := (blk_cell BK294.out 0).trans rfl
                  have hcz75_1 : w72.cell? ⟨gb294, 1, none⟩ = some (.int .i64 ((rd_T38 l1 x14_2).f1)) := (blk_cell BK294.out 1).trans rfl
                  have hfz75_0 := blk_frozen BK294.out 0
                  have hfz75_1 := blk_frozen BK294.out 1
                  try go_wp2_with (first | ((with_reducible refine gate_builtin (b := .append) (xs := #[.tmp 107, .tmp 109]) rfl ?_); at_builtin; refine Kd.R_append k38 (w0 := w) w.heap.size rfl (.tmp 107) (.tmp 109) 23 38 (.agg #[(.int .i64 0), (.int .i64 0)]) 16 rfl Try.underlying23 info38 rfl (by decide) (by omega) u13 x13_2 (⟨t312, t313⟩ : S38) [.int .i64 t312, .int .i64 t313] (fun k_ => k_ ≠ gb292 ∧ k_ ≠ gb294) (fun _ => False) rfl (by first | (go_simp; done) | (go_simp; rfl)) ?aP (fun _ hk => hk.elim) ?aF ?aO ?aB ?aS ?aL ?_; (case aP => exact k38_mkM _ _ _ (⟨t312, t313⟩ : S38)); (case aB => exact (by repeat (first | (with_reducible first | exact HB.out | apply below_alloc | apply pw_below_drewN | apply below_drew1 | refine below_set ?_ GE292.out | refine below_set ?_ GE294.out) | exact HB.out))); (case aF => exact (fun k_ hk => ⟨Kd.freshB (g := gb292) (o := .cells #[.int .i64 t290, .int .i64 t291] 38 (0, 0)) (by (with_reducible repeat (first | refine blk_drewN ?_ _ | refine blk_drew ?_ | refine blk_alloc ?_ _)); refine blk_far ?_ NB292_294.out _; (with_reducible repeat (first | refine blk_drewN ?_ _ | refine blk_drew ?_ | refine blk_alloc ?_ _)); refine blk_far ?_ NB292_294.out _; (with_reducible repeat (first | refine blk_drewN ?_ _ | refine blk_drew ?_ | refine blk_alloc ?_ _)); exact BK292.out) k_ hk, Kd.freshB (g := gb294) (o := .cells #[.int .i64 t312, .int .i64 t313] 38 (0, 0)) (by (with_reducible repeat (first | refine blk_drewN ?_ _ | refine blk_drew ?_ | refine blk_alloc ?_ _)); refine blk_put (cs := #[.int .i64 t312, .int .i64 ((rd_T38 l1 x14_2).f1)]) ?_ 1 _ rfl; (with_reducible repeat (first | refine blk_drewN ?_ _ | refine blk_drew ?_ | refine blk_alloc ?_ _)); refine blk_put (cs := #[.int .i64 ((rd_T38 l1 x14_2).f0), .int .i64 ((rd_T38 l1 x14_2).f1)]) ?_ 0 _ rfl; (with_reducible repeat (first | refine blk_drewN ?_ _ | refine blk_drew ?_ | refine blk_alloc ?_ _)); exact BK294.out) k_ hk⟩)); (case aO => exact (by (with_reducible repeat (first | apply Kd.R_alloc | apply Kd.R_drewN | apply Kd.R_drew)); exact Kd.R_mono (Kd.R_far (p := ⟨gb294, 1, none⟩) (Kd.R_far (p := ⟨gb294, 0, none⟩) (Kd.R_mono HO_13.out (fun k_ hk => (⟨hk, hk.2⟩ : _ ∧ k_ ≠ gb294))) (fun _ hk => hk.2) (.int .i64 t312)) (fun _ hk => hk.2) (.int .i64 t313)) (fun _ hk => ⟨hk.1.1, hk.1.2⟩))); (case aS => exact (below_size (by repeat (first | (with_reducible first | exact HB.out | apply below_alloc | apply pw_below_drewN | apply below_drew1 | refine below_set ?_ GE292.out | refine below_set ?_ GE294.out) | exact HB.out)))); (case aL => have := LMc65.out; omega); intro v315 w76 ho hb hg hat; rw [← Ny314.out] at ho; have n0_ := Aside0.mk (blk_grown (g := gb292) (o := .cells #[.int .i64 t290, .int .i64 t291] 38 (0, 0)) (by (with_reducible repeat (first | refine blk_drewN ?_ _ | refine blk_drew ?_ | refine blk_alloc ?_ _)); refine blk_far ?_ NB292_294.out _; (with_reducible repeat (first | refine blk_drewN ?_ _ | refine blk_drew ?_ | refine blk_alloc ?_ _)); refine blk_far ?_ NB292_294.out _; (with_reducible repeat (first | refine blk_drewN ?_ _ | refine blk_drew ?_ | refine blk_alloc ?_ _)); exact BK292.out) hg (Kd.R_away HO_13.out (fun _ hk => hk.1))); have n1_ := Aside0.mk (blk_grown (g := gb294) (o := .cells #[.int .i64 t312, .int .i64 t313] 38 (0, 0)) (by (with_reducible repeat (first | refine blk_drewN ?_ _ | refine blk_drew ?_ | refine blk_alloc ?_ _)); refine blk_put (cs := #[.int .i64 t312, .int .i64 ((rd_T38 l1 x14_2).f1)]) ?_ 1 _ rfl; (with_reducible repeat (first | refine blk_drewN ?_ _ | refine blk_drew ?_ | refine blk_alloc ?_ _)); refine blk_put (cs := #[.int .i64 ((rd_T38 l1 x14_2).f0), .int .i64 ((rd_T38 l1 x14_2).f1)]) ?_ 0 _ rfl; (with_reducible repeat (first | refine blk_drewN ?_ _ | refine blk_drew ?_ | refine blk_alloc ?_ _)); exact BK294.out) hg (Kd.R_away HO_13.out (fun _ hk => hk.2))); have n2_ := Aside0.mk (hb); have n3_ := Aside0.mk (ho); clear BK292; clear BK294; clear HB; clear HO_13; have BK292 := n0_; have BK294 := n1_; have HB := n2_; have HO316 := n3_; clear n0_ n1_ n2_ n3_; clear ho hb hg hat))
                  go_roundg k2
                  case measure => have := HK1.out; have := HK2.out; omega
                  case rel => exact ⟨(y314), (wrap64 (x14_2 + 1)), sd_, H', ⟨by have := HK1.out; have := HK2.out; omega⟩, ⟨by (with_reducible repeat (first | apply Kd.R_alloc | apply Kd.R_drewN | apply Kd.R_drew)); exact Kd.R_mono HO316.out (fun _ hk => hk.1)⟩, ⟨by (with_reducible repeat (first | refine blk_drewN ?_ _ | refine blk_drew ?_ | refine blk_alloc ?_ _)); exact BK292.out⟩, ⟨by repeat (first | (with_reducible first | exact HB.out | apply below_alloc | apply pw_below_drewN | apply below_drew1 | refine below_set ?_ GE292.out | refine below_set ?_ GE294.out) | exact HB.out)⟩⟩
                 ·rw [if_neg c65] at H
                  exact absurd H (by simp)
                ·rw [if_neg c63] at H
                 have c63b0 : (((rd_T63 l0 x14_2).f1) == ((rd_T63 l0 a2).f0)) = false := beq_eq_false_iff_ne.mpr c63
                 have c63b1 : (((rd_T63 l0 x14_2).f1) != ((rd_T63 l0 a2).f0)) = true := bne_iff_ne.mpr c63
                 by_cases c77 : x13_2.length < 8796093022208
                 ·rw [if_pos c77] at H
                  have LMc77 := Aside0.mk c77
                  clear c77
                  obtain ⟨y317, hy317⟩ : ∃ y_ : List (S38), y_ = (x13_2 ++ [(⟨(rd_T38 l1 x14_2).f0, (rd_T38 l1 x14_2).f1⟩ : S38)]) := ⟨_, rfl⟩
                  replace H : (cohousingref28_equation.l1 k2 l0 l1 a2 x9_1 x10_1 y317 (wrap64 (x14_2 + 1)) t290 t291) = some r := by first | (rw [hy317]; with_reducible exact H) | (have H2_ := (Option.bind_some _ _).symm.trans H; rw [hy317]; with_reducible exact H2_) | (have H2_ := (Option.bind_some _ _).symm.trans H; with_reducible exact H2_) | with_reducible exact H | (rw [hy317]; exact H) | exact H
                  have Ny317 := Aside0.mk hy317
                  clear hy317
                  have H' := Aside0.mk H
                  clear H
                  have p293 : 0 ≤ (x14_2 : Int) := od_
                  have q293 : x14_2 < (l1.length : Int) := od_
                  obtain ⟨ad293, e293, hx293_0, hx293_1⟩ := at_T38 HR1.out x14_2 p293 q293
                  obtain rfl : ad288 = ad293 := (by injection e293)
                  replace hx293_0 := (HB.out.cell (World.block_lt_of_cell? w _ hx293_0)).trans hx293_0
                  replace hx293_1 := (HB.out.cell (World.block_lt_of_cell? w _ hx293_1)).trans hx293_1
                  replace p293 := eq_true p293
                  replace q293 := eq_true q293
                  try go_wp2_with (first | ((with_reducible refine gate_dst (N := 15) rfl ?_); refine box_event ?hg (N := 15) ?hd (cs := #[.int .i64 0, .int .i64 0]) (t := 38) ?hr ?_; (case hd => rfl); (case hg => rfl); (case hr => first | (go_simp; done) | (go_simp; rfl)); intro gb294 hg w78 hbox hb; have n0_ := Aside0.mk (Kd.R_below (Kd.R_elderB (rr_ HO_13) gb294 (Nat.le_of_eq hg.symm)) hb); have n1_ := Aside0.mk (blk_below (g := gb292) (o := .cells #[.int .i64 t290, .int .i64 t291] 38 (0, 0)) (kk_ BK292) hb); have n2_ := Aside0.mk (below_step (bs_ HB GE292.out) hb); have n3_ := Aside0.mk (hbox); have n4_ := Aside0.mk ((by rw [hg]; exact (below_size (bs_ HB GE292.out)) : w.heap.size ≤ gb294)); have n5_ := Aside0.mk ((by rw [hg]; exact (below_size (bs_ HB GE292.out)) : w.heap.size ≤ gb294)); have n6_ := Aside0.mk ((by rw [hg]; exact Nat.ne_of_lt (blk_lt (g := gb292) (o := .cells #[.int .i64 t290, .int .i64 t291] 38 (0, 0)) (kk_ BK292)) : gb292 ≠ gb294)); have n7_ := Aside0.mk ((by rw [hg]; exact Nat.ne_of_gt (blk_lt (g := gb292) (o := .cells #[.int .i64 t290, .int .i64 t291] 38 (0, 0)) (kk_ BK292)) : gb294 ≠ gb292)); clear HO_13; clear BK292; clear HB; have HO_13 := n0_; have BK292 := n1_; have HB := n2_; have BK294 := n3_; have GW294 := n4_; have GE294 := n5_; have NB292_294 := n6_; have NB294_292 := n7_; clear n0_ n1_ n2_ n3_ n4_ n5_ n6_ n7_; clear hb hbox hg; have hnb79 := NB294_292.out; have hnc79 := NB292_294.out; have hcz80_0 : w78.cell? ⟨gb294, 0, none⟩ = some (.int .i64 0) := (blk_cell BK294.out 0).trans rfl; have hcz80_1 : w78.cell? ⟨gb294, 1, none⟩ = some (.int .i64 0) := (blk_cell BK294.out 1).trans rfl; have hfz80_0 := blk_frozen BK294.out 0; have hfz80_1 := blk_frozen BK294.out 1))
                  have n0_ : Aside0 (Kd.R k38 38 ((w78.setCell ⟨gb294, 0, none⟩ (.int .i64 ((rd_T38 l1 x14_2).f0))).setCell ⟨gb294, 1, none⟩ (.int .i64 ((rd_T38 l1 x14_2).f1))) w.heap.size (fun k_ => k_ ≠ gb292 ∧ k_ ≠ gb294) u13 x13_2) := ⟨by (with_reducible repeat (first | apply Kd.R_alloc | apply Kd.R_drewN | apply Kd.R_drew)); exact Kd.R_mono (Kd.R_far (p := ⟨gb294, 1, none⟩) (Kd.R_far (p := ⟨gb294, 0, none⟩) (Kd.R_mono HO_13.out (fun k_ hk => (⟨hk, hk.2⟩ : _ ∧ k_ ≠ gb294))) (fun _ hk => hk.2) (.int .i64 ((rd_T38 l1 x14_2).f0))) (fun _ hk => hk.2) (.int .i64 ((rd_T38 l1 x14_2).f1))) (fun _ hk => ⟨hk.1.1, hk.1.2⟩)⟩
                  have n1_ : Aside0 (((w78.setCell ⟨gb294, 0, none⟩ (.int .i64 ((rd_T38 l1 x14_2).f0))).setCell ⟨gb294, 1, none⟩ (.int .i64 ((rd_T38 l1 x14_2).f1))).heap[gb292]? = some (.cells #[.int .i64 t290, .int .i64 t291] 38 (0, 0))) := ⟨by (with_reducible repeat (first | refine blk_drewN ?_ _ | refine blk_drew ?_ | refine blk_alloc ?_ _)); refine blk_far ?_ NB292_294.out _; (with_reducible repeat (first | refine blk_drewN ?_ _ | refine blk_drew ?_ | refine blk_alloc ?_ _)); refine blk_far ?_ NB292_294.out _; (with_reducible repeat (first | refine blk_drewN ?_ _ | refine blk_drew ?_ | refine blk_alloc ?_ _)); exact BK292.out⟩
                  have n2_ : Aside0 (((w78.setCell ⟨gb294, 0, none⟩ (.int .i64 ((rd_T38 l1 x14_2).f0))).setCell ⟨gb294, 1, none⟩ (.int .i64 ((rd_T38 l1 x14_2).f1))).heap[gb294]? = some (.cells #[.int .i64 ((rd_T38 l1 x14_2).f0), .int .i64 ((rd_T38 l1 x14_2).f1)] 38 (0, 0))) := ⟨by (with_reducible repeat (first | refine blk_drewN ?_ _ | refine blk_drew ?_ | refine blk_alloc ?_ _)); refine blk_put (cs := #[.int .i64 ((rd_T38 l1 x14_2).f0), .int .i64 0]) ?_ 1 _ rfl; (with_reducible repeat (first | refine blk_drewN ?_ _ | refine blk_drew ?_ | refine blk_alloc ?_ _)); refine blk_put (cs := #[.int .i64 0, .int .i64 0]) ?_ 0 _ rfl; (with_reducible repeat (first | refine blk_drewN ?_ _ | refine blk_drew ?_ | refine blk_alloc ?_ _)); exact BK294.out⟩
                  have n3_ : Aside0 (Below w.heap.size w ((w78.setCell ⟨gb294, 0, none⟩ (.int .i64 ((rd_T38 l1 x14_2).f0))).setCell ⟨gb294, 1, none⟩ (.int .i64 ((rd_T38 l1 x14_2).f1)))) := ⟨by repeat (first | (with_reducible first | exact HB.out | apply below_alloc | apply pw_below_drewN | apply below_drew1 | refine below_set ?_ GE292.out | refine below_set ?_ GE294.out) | exact HB.out)⟩
                  (try clear HO_13)
                  (try clear BK292)
                  (try clear BK294)
                  (try clear HB)
                  generalize ((w78.setCell ⟨gb294, 0, none⟩ (.int .i64 ((rd_T38 l1 x14_2).f0))).setCell ⟨gb294, 1, none⟩ (.int .i64 ((rd_T38 l1 x14_2).f1))) = w81 at n0_ n1_ n2_ n3_ ⊢
                  have HO_13 := n0_
                  have BK292 := n1_
                  have BK294 := n2_
                  have HB := n3_
                  clear n0_ n1_ n2_ n3_
                  have n0_ := Aside0.mk (Kd.R_drew HO_13.out)
                  have n1_ := Aside0.mk (blk_drew BK292.out)
                  have n2_ := Aside0.mk (blk_drew BK294.out)
                  have n3_ := Aside0.mk (below_drew1 HB.out)
                  clear HO_13
                  clear BK292
                  clear BK294
                  clear HB
                  have HO_13 := n0_
                  have BK292 := n1_
                  have BK294 := n2_
                  have HB := n3_
                  clear n0_ n1_ n2_ n3_
                  have p309 : 0 ≤ (x14_2 : Int) := od_
                  have q309 : x14_2 < (l0.length : Int) := od_
                  obtain ⟨ad309, e309, hx309_0, hx309_1, hx309_2⟩ := at_T63 HR0.out x14_2 p309 q309
                  have hw309_2 := hx309_2
                  have hw309_1 := hx309_1
                  have hw309_0 := hx309_0
                  obtain rfl : ad289 = ad309 := (by injection e309)
                  replace hx309_0 := (HB.out.cell (World.block_lt_of_cell? w _ hx309_0)).trans hx309_0
                  replace hx309_1 := (HB.out.cell (World.block_lt_of_cell? w _ hx309_1)).trans hx309_1
                  replace hx309_2 := (HB.out.cell (World.block_lt_of_cell? w _ hx309_2)).trans hx309_2
                  replace p309 := eq_true p309
                  replace q309 := eq_true q309
                  have p310 : 0 ≤ (a2 : Int) := od_
                  have q310 : a2 < (l0.length : Int) := od_
                  obtain ⟨ad310, e310, hx310_0, hx310_1, hx310_2⟩ := at_T63 HR0.out a2 p310 q310
                  have hw310_2 := hx310_2
                  have hw310_1 := hx310_1
                  have hw310_0 := hx310_0
                  obtain rfl : ad289 = ad310 := (by injection e310)
                  replace hx310_0 := (HB.out.cell (World.block_lt_of_cell? w _ hx310_0)).trans hx310_0
                  replace hx310_1 := (HB.out.cell (World.block_lt_of_cell? w _ hx310_1)).trans hx310_1
                  replace hx310_2 := (HB.out.cell (World.block_lt_of_cell? w _ hx310_2)).trans hx310_2
                  replace p310 := eq_true p310
                  replace q310 := eq_true q310
                  refine start_ (n := 16) (S := fun w' => w'.cell? (ad289.add ((x14_2).toNat * 3)) = some (.int .i64 ((rd_T63 l0 x14_2).f0)) ∧ w'.cell? ⟨(ad289.add ((x14_2).toNat * 3)).block, (ad289.add ((x14_2).toNat * 3)).off + 1, none⟩ = some (.int .i64 ((rd_T63 l0 x14_2).f1)) ∧ w'.cell? ⟨(ad289.add ((x14_2).toNat * 3)).block, (ad289.add ((x14_2).toNat * 3)).off + 2, none⟩ = some (.int .i64 ((rd_T63 l0 x14_2).f2)) ∧ w'.cell? (ad289.add ((a2).toNat * 3)) = some (.int .i64 ((rd_T63 l0 a2).f0)) ∧ w'.cell? ⟨(ad289.add ((a2).toNat * 3)).block, (ad289.add ((a2).toNat * 3)).off + 1, none⟩ = some (.int .i64 ((rd_T63 l0 a2).f1)) ∧ w'.cell? ⟨(ad289.add ((a2).toNat * 3)).block, (ad289.add ((a2).toNat * 3)).off + 2, none⟩ = some (.int .i64 ((rd_T63 l0 a2).f2))) (ds := []) #[n_, n_, n_, n_, n_, n_, n_, n_, n_, n_, n_, n_, n_, n_, n_, n_] (by kernel_rfl) rfl rfl ⟨((HB.out.cell (World.block_lt_of_cell? w _ hw309_0)).trans hw309_0), ((HB.out.cell (World.block_lt_of_cell? w _ hw309_1)).trans hw309_1), ((HB.out.cell (World.block_lt_of_cell? w _ hw309_2)).trans hw309_2), ((HB.out.cell (World.block_lt_of_cell? w _ hw310_0)).trans hw310_0), ((HB.out.cell (World.block_lt_of_cell? w _ hw310_1)).trans hw310_1), ((HB.out.cell (World.block_lt_of_cell? w _ hw310_2)).trans hw310_2)⟩ (fun hHeld => ?_); refine with_tabW cohousingref28_equation.tab16 cohousingref28_equation.bits16 (fun HT_ HW_ => ?_)
                  generalize w81.drew = w82 at HO_13 BK292 BK294 HB hx309_0 hx309_1 hx309_2 hx310_0 hx310_1 hx310_2 hHeld ⊢
                  refine pu_ 0 69 (w_ 16 1) rfl HT_ ?_
                  refine pu_ 1 70 (w_ 16 3) rfl HT_ ?_
                  refine pu_ 2 71 (w_ 16 7) rfl HT_ ?_
                  refine pu_ 3 72 (w_ 16 15) rfl HT_ ?_
                  refine pu_ 4 73 (w_ 16 31) rfl HT_ ?_
                  refine pu_ 5 74 (w_ 16 63) rfl HT_ ?_
                  refine pu_ 6 75 (w_ 16 127) rfl HT_ ?_
                  refine pu_ 7 76 (w_ 16 255) rfl HT_ ?_
                  refine pu_ 9 78 (w_ 16 767) rfl HT_ ?_
                  refine pu_ 10 79 (w_ 16 1791) rfl HT_ ?_
                  refine pu_ 11 80 (w_ 16 3839) rfl HT_ ?_
                  refine pu_ 12 81 (w_ 16 7935) rfl HT_ ?_
                  refine ta_ 8 77 (w_ 16 8191) rfl HT_ HW_ hHeld (by rintro w' ⟨s0, s1, s2, s3, s4, s5⟩; go_simp; with_reducible rfl) ?_
                  refine ta_ 13 82 (w_ 16 16383) rfl HT_ HW_ hHeld (by rintro w' ⟨s0, s1, s2, s3, s4, s5⟩; go_simp; with_reducible rfl) ?_
                  refine pu_ 14 83 (w_ 16 32767) rfl HT_ ?_
                  refine pu_ 15 84 (w_ 16 65535) rfl HT_ ?_
                  refine done_ (done_of HT_.out (by kernel_rfl)) ?_
                  have hcz83_0 : w82.cell? ⟨gb294, 0, none⟩ = some (.int .i64 ((rd_T38 l1 x14_2).f0)) := (blk_cell BK294.out 0).trans rfl
                  have hcz83_1 : w82.cell? ⟨gb294, 1, none⟩ = some (.int .i64 ((rd_T38 l1 x14_2).f1)) := (blk_cell BK294.out 1).trans rfl
                  have hfz83_0 := blk_frozen BK294.out 0
                  have hfz83_1 := blk_frozen BK294.out 1
                  try go_wp2_with (first | ((with_reducible refine gate_builtin (b := .append) (xs := #[.tmp 107, .tmp 109]) rfl ?_); at_builtin; refine Kd.R_append k38 (w0 := w) w.heap.size rfl (.tmp 107) (.tmp 109) 23 38 (.agg #[(.int .i64 0), (.int .i64 0)]) 16 rfl Try.underlying23 info38 rfl (by decide) (by omega) u13 x13_2 (⟨(rd_T38 l1 x14_2).f0, (rd_T38 l1 x14_2).f1⟩ : S38) [.int .i64 ((rd_T38 l1 x14_2).f0), .int .i64 ((rd_T38 l1 x14_2).f1)] (fun k_ => k_ ≠ gb292 ∧ k_ ≠ gb294) (fun _ => False) rfl rfl ?aP (fun _ hk => hk.elim) ?aF ?aO ?aB ?aS ?aL ?_; (case aP => exact k38_mkM _ _ _ (⟨(rd_T38 l1 x14_2).f0, (rd_T38 l1 x14_2).f1⟩ : S38)); (case aB => exact (by repeat (first | (with_reducible first | exact HB.out | apply below_alloc | apply pw_below_drewN | apply below_drew1 | refine below_set ?_ GE292.out | refine below_set ?_ GE294.out) | exact HB.out))); (case aF => exact (fun k_ hk => ⟨Kd.freshB (g := gb292) (o := .cells #[.int .i64 t290, .int .i64 t291] 38 (0, 0)) (kk_ BK292) k_ hk, Kd.freshB (g := gb294) (o := .cells #[.int .i64 ((rd_T38 l1 x14_2).f0), .int .i64 ((rd_T38 l1 x14_2).f1)] 38 (0, 0)) (kk_ BK294) k_ hk⟩)); (case aO => exact (rr_ HO_13)); (case aS => exact (below_size (by repeat (first | (with_reducible first | exact HB.out | apply below_alloc | apply pw_below_drewN | apply below_drew1 | refine below_set ?_ GE292.out | refine below_set ?_ GE294.out) | exact HB.out)))); (case aL => have := LMc77.out; omega); intro v318 w84 ho hb hg hat; rw [← Ny317.out] at ho; have n0_ := Aside0.mk (blk_grown (g := gb292) (o := .cells #[.int .i64 t290, .int .i64 t291] 38 (0, 0)) (kk_ BK292) hg (Kd.R_away HO_13.out (fun _ hk => hk.1))); have n1_ := Aside0.mk (blk_grown (g := gb294) (o := .cells #[.int .i64 ((rd_T38 l1 x14_2).f0), .int .i64 ((rd_T38 l1 x14_2).f1)] 38 (0, 0)) (kk_ BK294) hg (Kd.R_away HO_13.out (fun _ hk => hk.2))); have n2_ := Aside0.mk (hb); have n3_ := Aside0.mk (ho); clear BK292; clear BK294; clear HB; clear HO_13; have BK292 := n0_; have BK294 := n1_; have HB := n2_; have HO319 := n3_; clear n0_ n1_ n2_ n3_; clear ho hb hg hat))
                  go_roundg k2
                  case measure => have := HK1.out; have := HK2.out; omega
                  case rel => exact ⟨(y317), (wrap64 (x14_2 + 1)), sd_, H', ⟨by have := HK1.out; have := HK2.out; omega⟩, ⟨by (with_reducible repeat (first | apply Kd.R_alloc | apply Kd.R_drewN | apply Kd.R_drew)); exact Kd.R_mono HO319.out (fun _ hk => hk.1)⟩, ⟨by (with_reducible repeat (first | refine blk_drewN ?_ _ | refine blk_drew ?_ | refine blk_alloc ?_ _)); exact BK292.out⟩, ⟨by repeat (first | (with_reducible first | exact HB.out | apply below_alloc | apply pw_below_drewN | apply below_drew1 | refine below_set ?_ GE292.out | refine below_set ?_ GE294.out) | exact HB.out)⟩⟩
                 ·rw [if_neg c77] at H
                  exact absurd H (by simp)
               ·rw [if_neg c62] at H
                exact absurd H (by simp)
              ·rw [if_neg c61] at H
               exact absurd H (by simp)
             ·rw [if_neg c60] at H
              exact absurd H (by simp)
            ·rw [if_neg c59] at H
             have c59b0 : decide (a2 < x14_2) = false := decide_eq_false c59
             clear c59
             by_cases c85 : x13_2.length < 8796093022208
             ·rw [if_pos c85] at H
              have LMc85 := Aside0.mk c85
              clear c85
              obtain ⟨y320, hy320⟩ : ∃ y_ : List (S38), y_ = (x13_2 ++ [(⟨(rd_T38 l1 x14_2).f0, (rd_T38 l1 x14_2).f1⟩ : S38)]) := ⟨_, rfl⟩
              replace H : (cohousingref28_equation.l1 k2 l0 l1 a2 x9_1 x10_1 y320 (wrap64 (x14_2 + 1)) t290 t291) = some r := by first | (rw [hy320]; with_reducible exact H) | (have H2_ := (Option.bind_some _ _).symm.trans H; rw [hy320]; with_reducible exact H2_) | (have H2_ := (Option.bind_some _ _).symm.trans H; with_reducible exact H2_) | with_reducible exact H | (rw [hy320]; exact H) | exact H
              have Ny320 := Aside0.mk hy320
              clear hy320
              have H' := Aside0.mk H
              clear H
              have p293 : 0 ≤ (x14_2 : Int) := od_
              have q293 : x14_2 < (l1.length : Int) := od_
              obtain ⟨ad293, e293, hx293_0, hx293_1⟩ := at_T38 HR1.out x14_2 p293 q293
              obtain rfl : ad288 = ad293 := (by injection e293)
              replace hx293_0 := (HB.out.cell (World.block_lt_of_cell? w _ hx293_0)).trans hx293_0
              replace hx293_1 := (HB.out.cell (World.block_lt_of_cell? w _ hx293_1)).trans hx293_1
              replace p293 := eq_true p293
              replace q293 := eq_true q293
              try go_wp2_with (first | ((with_reducible refine gate_dst (N := 15) rfl ?_); refine box_event ?hg (N := 15) ?hd (cs := #[.int .i64 0, .int .i64 0]) (t := 38) ?hr ?_; (case hd => rfl); (case hg => rfl); (case hr => first | (go_simp; done) | (go_simp; rfl)); intro gb294 hg w86 hbox hb; have n0_ := Aside0.mk (Kd.R_below (Kd.R_elderB (rr_ HO_13) gb294 (Nat.le_of_eq hg.symm)) hb); have n1_ := Aside0.mk (blk_below (g := gb292) (o := .cells #[.int .i64 t290, .int .i64 t291] 38 (0, 0)) (kk_ BK292) hb); have n2_ := Aside0.mk (below_step (bs_ HB GE292.out) hb); have n3_ := Aside0.mk (hbox); have n4_ := Aside0.mk ((by rw [hg]; exact (below_size (bs_ HB GE292.out)) : w.heap.size ≤ gb294)); have n5_ := Aside0.mk ((by rw [hg]; exact (below_size (bs_ HB GE292.out)) : w.heap.size ≤ gb294)); have n6_ := Aside0.mk ((by rw [hg]; exact Nat.ne_of_lt (blk_lt (g := gb292) (o := .cells #[.int .i64 t290, .int .i64 t291] 38 (0, 0)) (kk_ BK292)) : gb292 ≠ gb294)); have n7_ := Aside0.mk ((by rw [hg]; exact Nat.ne_of_gt (blk_lt (g := gb292) (o := .cells #[.int .i64 t290, .int .i64 t291] 38 (0, 0)) (kk_ BK292)) : gb294 ≠ gb292)); clear HO_13; clear BK292; clear HB; have HO_13 := n0_; have BK292 := n1_; have HB := n2_; have BK294 := n3_; have GW294 := n4_; have GE294 := n5_; have NB292_294 := n6_; have NB294_292 := n7_; clear n0_ n1_ n2_ n3_ n4_ n5_ n6_ n7_; clear hb hbox hg; have hnb87 := NB294_292.out; have hnc87 := NB292_294.out; have hcz88_0 : w86.cell? ⟨gb294, 0, none⟩ = some (.int .i64 0) := (blk_cell BK294.out 0).trans rfl; have hcz88_1 : w86.cell? ⟨gb294, 1, none⟩ = some (.int .i64 0) := (blk_cell BK294.out 1).trans rfl; have hfz88_0 := blk_frozen BK294.out 0; have hfz88_1 := blk_frozen BK294.out 1))
              have n0_ : Aside0 (Kd.R k38 38 ((w86.setCell ⟨gb294, 0, none⟩ (.int .i64 ((rd_T38 l1 x14_2).f0))).setCell ⟨gb294, 1, none⟩ (.int .i64 ((rd_T38 l1 x14_2).f1))) w.heap.size (fun k_ => k_ ≠ gb292 ∧ k_ ≠ gb294) u13 x13_2) := ⟨by (with_reducible repeat (first | apply Kd.R_alloc | apply Kd.R_drewN | apply Kd.R_drew)); exact Kd.R_mono (Kd.R_far (p := ⟨gb294, 1, none⟩) (Kd.R_far (p := ⟨gb294, 0, none⟩) (Kd.R_mono HO_13.out (fun k_ hk => (⟨hk, hk.2⟩ : _ ∧ k_ ≠ gb294))) (fun _ hk => hk.2) (.int .i64 ((rd_T38 l1 x14_2).f0))) (fun _ hk => hk.2) (.int .i64 ((rd_T38 l1 x14_2).f1))) (fun _ hk => ⟨hk.1.1, hk.1.2⟩)⟩
              have n1_ : Aside0 (((w86.setCell ⟨gb294, 0, none⟩ (.int .i64 ((rd_T38 l1 x14_2).f0))).setCell ⟨gb294, 1, none⟩ (.int .i64 ((rd_T38 l1 x14_2).f1))).heap[gb292]? = some (.cells #[.int .i64 t290, .int .i64 t291] 38 (0, 0))) := ⟨by (with_reducible repeat (first | refine blk_drewN ?_ _ | refine blk_drew ?_ | refine blk_alloc ?_ _)); refine blk_far ?_ NB292_294.out _; (with_reducible repeat (first | refine blk_drewN ?_ _ | refine blk_drew ?_ | refine blk_alloc ?_ _)); refine blk_far ?_ NB292_294.out _; (with_reducible repeat (first | refine blk_drewN ?_ _ | refine blk_drew ?_ | refine blk_alloc ?_ _)); exact BK292.out⟩
              have n2_ : Aside0 (((w86.setCell ⟨gb294, 0, none⟩ (.int .i64 ((rd_T38 l1 x14_2).f0))).setCell ⟨gb294, 1, none⟩ (.int .i64 ((rd_T38 l1 x14_2).f1))).heap[gb294]? = some (.cells #[.int .i64 ((rd_T38 l1 x14_2).f0), .int .i64 ((rd_T38 l1 x14_2).f1)] 38 (0, 0))) := ⟨by (with_reducible repeat (first | refine blk_drewN ?_ _ | refine blk_drew ?_ | refine blk_alloc ?_ _)); refine blk_put (cs := #[.int .i64 ((rd_T38 l1 x14_2).f0), .int .i64 0]) ?_ 1 _ rfl; (with_reducible repeat (first | refine blk_drewN ?_ _ | refine blk_drew ?_ | refine blk_alloc ?_ _)); refine blk_put (cs := #[.int .i64 0, .int .i64 0]) ?_ 0 _ rfl; (with_reducible repeat (first | refine blk_drewN ?_ _ | refine blk_drew ?_ | refine blk_alloc ?_ _)); exact BK294.out⟩
              have n3_ : Aside0 (Below w.heap.size w ((w86.setCell ⟨gb294, 0, none⟩ (.int .i64 ((rd_T38 l1 x14_2).f0))).setCell ⟨gb294, 1, none⟩ (.int .i64 ((rd_T38 l1 x14_2).f1)))) := ⟨by repeat (first | (with_reducible first | exact HB.out | apply below_alloc | apply pw_below_drewN | apply below_drew1 | refine below_set ?_ GE292.out | refine below_set ?_ GE294.out) | exact HB.out)⟩
              (try clear HO_13)
              (try clear BK292)
              (try clear BK294)
              (try clear HB)
              generalize ((w86.setCell ⟨gb294, 0, none⟩ (.int .i64 ((rd_T38 l1 x14_2).f0))).setCell ⟨gb294, 1, none⟩ (.int .i64 ((rd_T38 l1 x14_2).f1))) = w89 at n0_ n1_ n2_ n3_ ⊢
              have HO_13 := n0_
              have BK292 := n1_
              have BK294 := n2_
              have HB := n3_
              clear n0_ n1_ n2_ n3_
              have n0_ := Aside0.mk (Kd.R_drew HO_13.out)
              have n1_ := Aside0.mk (blk_drew BK292.out)
              have n2_ := Aside0.mk (blk_drew BK294.out)
              have n3_ := Aside0.mk (below_drew1 HB.out)
              clear HO_13
              clear BK292
              clear BK294
              clear HB
              have HO_13 := n0_
              have BK292 := n1_
              have BK294 := n2_
              have HB := n3_
              clear n0_ n1_ n2_ n3_
              refine start_ (n := 16) (S := fun w' => True) (ds := []) #[n_, n_, n_, n_, n_, n_, n_, n_, n_, n_, n_, n_, n_, n_, n_, n_] (by kernel_rfl) rfl rfl trivial (fun hHeld => ?_); refine with_tabW cohousingref28_equation.tab16 cohousingref28_equation.bits16 (fun HT_ HW_ => ?_)
              generalize w89.drew = w90 at HO_13 BK292 BK294 HB hHeld ⊢
              refine pu_ 0 69 (w_ 16 1) rfl HT_ ?_
              refine pu_ 1 70 (w_ 16 3) rfl HT_ ?_
              refine pu_ 2 71 (w_ 16 7) rfl HT_ ?_
              refine pu_ 3 72 (w_ 16 15) rfl HT_ ?_
              refine pn_ 4 73 (w_ 16 31) rfl HT_ ?_
              refine pn_ 5 74 (w_ 16 63) rfl HT_ ?_
              refine pn_ 6 75 (w_ 16 127) rfl HT_ ?_
              refine pn_ 7 76 (w_ 16 255) rfl HT_ ?_
              refine pn_ 8 77 (w_ 16 511) rfl HT_ ?_
              refine pn_ 9 78 (w_ 16 1023) rfl HT_ ?_
              refine pn_ 10 79 (w_ 16 2047) rfl HT_ ?_
              refine pn_ 11 80 (w_ 16 4095) rfl HT_ ?_
              refine pn_ 12 81 (w_ 16 8191) rfl HT_ ?_
              refine pn_ 13 82 (w_ 16 16383) rfl HT_ ?_
              refine pn_ 14 83 (w_ 16 32767) rfl HT_ ?_
              refine pu_ 15 84 (w_ 16 65535) rfl HT_ ?_
              refine done_ (done_of HT_.out (by kernel_rfl)) ?_
              have hcz91_0 : w90.cell? ⟨gb294, 0, none⟩ = some (.int .i64 ((rd_T38 l1 x14_2).f0)) := (blk_cell BK294.out 0).trans rfl
              have hcz91_1 : w90.cell? ⟨gb294, 1, none⟩ = some (.int .i64 ((rd_T38 l1 x14_2).f1)) := (blk_cell BK294.out 1).trans rfl
              have hfz91_0 := blk_frozen BK294.out 0
              have hfz91_1 := blk_frozen BK294.out 1
              try go_wp2_with (first | ((with_reducible refine gate_builtin (b := .append) (xs := #[.tmp 107, .tmp 109]) rfl ?_); at_builtin; refine Kd.R_append k38 (w0 := w) w.heap.size rfl (.tmp 107) (.tmp 109) 23 38 (.agg #[(.int .i64 0), (.int .i64 0)]) 16 rfl Try.underlying23 info38 rfl (by decide) (by omega) u13 x13_2 (⟨(rd_T38 l1 x14_2).f0, (rd_T38 l1 x14_2).f1⟩ : S38) [.int .i64 ((rd_T38 l1 x14_2).f0), .int .i64 ((rd_T38 l1 x14_2).f1)] (fun k_ => k_ ≠ gb292 ∧ k_ ≠ gb294) (fun _ => False) rfl rfl ?aP (fun _ hk => hk.elim) ?aF ?aO ?aB ?aS ?aL ?_; (case aP => exact k38_mkM _ _ _ (⟨(rd_T38 l1 x14_2).f0, (rd_T38 l1 x14_2).f1⟩ : S38)); (case aB => exact (by repeat (first | (with_reducible first | exact HB.out | apply below_alloc | apply pw_below_drewN | apply below_drew1 | refine below_set ?_ GE292.out | refine below_set ?_ GE294.out) | exact HB.out))); (case aF => exact (fun k_ hk => ⟨Kd.freshB (g := gb292) (o := .cells #[.int .i64 t290, .int .i64 t291] 38 (0, 0)) (kk_ BK292) k_ hk, Kd.freshB (g := gb294) (o := .cells #[.int .i64 ((rd_T38 l1 x14_2).f0), .int .i64 ((rd_T38 l1 x14_2).f1)] 38 (0, 0)) (kk_ BK294) k_ hk⟩)); (case aO => exact (rr_ HO_13)); (case aS => exact (below_size (by repeat (first | (with_reducible first | exact HB.out | apply below_alloc | apply pw_below_drewN | apply below_drew1 | refine below_set ?_ GE292.out | refine below_set ?_ GE294.out) | exact HB.out)))); (case aL => have := LMc85.out; omega); intro v321 w92 ho hb hg hat; rw [← Ny320.out] at ho; have n0_ := Aside0.mk (blk_grown (g := gb292) (o := .cells #[.int .i64 t290, .int .i64 t291] 38 (0, 0)) (kk_ BK292) hg (Kd.R_away HO_13.out (fun _ hk => hk.1))); have n1_ := Aside0.mk (blk_grown (g := gb294) (o := .cells #[.int .i64 ((rd_T38 l1 x14_2).f0), .int .i64 ((rd_T38 l1 x14_2).f1)] 38 (0, 0)) (kk_ BK294) hg (Kd.R_away HO_13.out (fun _ hk => hk.2))); have n2_ := Aside0.mk (hb); have n3_ := Aside0.mk (ho); clear BK292; clear BK294; clear HB; clear HO_13; have BK292 := n0_; have BK294 := n1_; have HB := n2_; have HO322 := n3_; clear n0_ n1_ n2_ n3_; clear ho hb hg hat))
              go_roundg k2
              case measure => have := HK1.out; have := HK2.out; omega
              case rel => exact ⟨(y320), (wrap64 (x14_2 + 1)), sd_, H', ⟨by have := HK1.out; have := HK2.out; omega⟩, ⟨by (with_reducible repeat (first | apply Kd.R_alloc | apply Kd.R_drewN | apply Kd.R_drew)); exact Kd.R_mono HO322.out (fun _ hk => hk.1)⟩, ⟨by (with_reducible repeat (first | refine blk_drewN ?_ _ | refine blk_drew ?_ | refine blk_alloc ?_ _)); exact BK292.out⟩, ⟨by repeat (first | (with_reducible first | exact HB.out | apply below_alloc | apply pw_below_drewN | apply below_drew1 | refine below_set ?_ GE292.out | refine below_set ?_ GE294.out) | exact HB.out)⟩⟩
             ·rw [if_neg c85] at H
              exact absurd H (by simp)
          ·rw [if_neg c20] at H
           exact absurd H (by simp)
         ·rw [if_neg c19] at H
          have c19b0 : decide (x14_2 < (l1.length : Int)) = false := decide_eq_false c19
          clear c19
          obtain rfl := Option.some.inj H
          go_wp2
          go_ret
          exact ⟨_, ew_, by (with_reducible repeat (first | apply Kd.R_alloc | apply Kd.R_drewN | apply Kd.R_drew)); exact Kd.R_mono HO_13.out (fun _ hk => trivial), by repeat (first | (with_reducible first | exact HB.out | apply below_alloc | apply pw_below_drewN | apply below_drew1 | refine below_set ?_ GE292.out) | exact HB.out)⟩
      ·rw [if_neg c11] at H
       exact absurd H (by simp)
     ·rw [if_neg c10] at H
      exact absurd H (by simp)
    ·rw [if_neg c9] at H
     exact absurd H (by simp)
end
section
def cohousingref28_once.l0 : Nat → List (S63) → List (S38) → Int → Option ((List (S38)))
 | 0, _, _, _ => none
 | k + 1, x0, x1, x5 => if x5 ≥ 0 then ((cohousingref28_below.f k x0 x5).bind fun t323 => (if (t323.length : Int) > 0 then ((cohousingref28_empty.f k x1).bind fun t326 => (if t326 = true then (cohousingref28_once.l0 k x0 x1 (wrap64 (x5 - 1))) else ((cohousingref28_equation.f k x0 x1 x5 t323).bind fun t327 => (cohousingref28_once.l0 k x0 t327 (wrap64 (x5 - 1)))))) else (cohousingref28_once.l0 k x0 x1 (wrap64 (x5 - 1))))) else (some x1)
def cohousingref28_once.f (k : Nat) (l0 : List (S63)) (l1 : List (S38)) : Option ((List (S38))) := cohousingref28_once.l0 k l0 l1 (wrap64 ((l0.length : Int) - 1))
theorem cohousingref28_once.mono_l : ∀ k, (∀ y0 y1 y2, LeO (cohousingref28_once.l0 k y0 y1 y2) (cohousingref28_once.l0 (k + 1) y0 y1 y2))
 | 0 => fun _ _ _ r h => by simp [cohousingref28_once.l0] at h
 | k + 1 => by
  have ih0 := cohousingref28_once.mono_l k
  ·intro y0 y1 y2
   unfold cohousingref28_once.l0
   repeat' first
   | (with_reducible exact ih0 _ _ _)
   | (with_reducible exact cohousingref28_below.mono _ _ _)
   | (with_reducible exact cohousingref28_empty.mono _ _)
   | (with_reducible exact cohousingref28_equation.mono _ _ _ _ _)
   | (with_reducible exact LeO.refl _)
   | (with_reducible exact LeO.none _)
   | (with_reducible refine LeO.ite ?_ ?_)
   | (with_reducible refine LeO.bind ?_ (fun _ => ?_))
   | exact ih0 _ _ _
   | exact cohousingref28_below.mono _ _ _
   | exact cohousingref28_empty.mono _ _
   | exact cohousingref28_equation.mono _ _ _ _ _
   | exact LeO.none _
   | refine LeO.ite ?_ ?_
   | refine LeO.bind ?_ (fun _ => ?_)
theorem cohousingref28_once.mono : ∀ a0 a1 k, LeO (cohousingref28_once.f k a0 a1) (cohousingref28_once.f (k + 1) a0 a1) := by
 intro a0 a1 k
 have ih0 := cohousingref28_once.mono_l k
 unfold cohousingref28_once.f
 repeat' first
   | (with_reducible exact ih0 _ _ _)
   | (with_reducible exact cohousingref28_below.mono _ _ _)
   | (with_reducible exact cohousingref28_empty.mono _ _)
   | (with_reducible exact cohousingref28_equation.mono _ _ _ _ _)
   | (with_reducible exact LeO.refl _)
   | (with_reducible exact LeO.none _)
   | (with_reducible refine LeO.ite ?_ ?_)
   | (with_reducible refine LeO.bind ?_ (fun _ => ?_))
   | exact ih0 _ _ _
   | exact cohousingref28_below.mono _ _ _
   | exact cohousingref28_empty.mono _ _
   | exact cohousingref28_equation.mono _ _ _ _ _
   | exact LeO.none _
   | refine LeO.ite ?_ ?_
   | refine LeO.bind ?_ (fun _ => ?_)
theorem cohousingref28_once.calls (k : Nat) (A0 : Option Addr) (c0 : Nat) (l0 : List (S63)) (P1_ : Nat → Prop) (A1 : Option Addr) (c1 : Nat) (l1 : List (S38)) (r : List (S38)) (w : World) (hr0 : Kd.C k63 w A0 l0.length l0) (hc0 : l0.length ≤ c0) (hs1 : Kd.V k38 38 w w.heap.size (fun k_ => P1_ k_) (.slice A1 l1.length c1) l1) (h : cohousingref28_once.f k l0 l1 = some r) :
  Calls Try.prog 87 #[.slice A0 l0.length c0, .slice A1 l1.length c1] w fun e w' => ∃ v0_ : Value, e = .returned (v0_) ∧ Kd.V k38 38 w' w.heap.size (fun k_ => (P1_ k_ ∨ w.heap.size ≤ k_)) v0_ r ∧ Below w.heap.size w w' := by
 have HR0 := Aside0.mk hr0
 have HC0 := Aside0.mk hc0
 clear hr0 hc0
 have HO1 := Aside0.mk (show Kd.V k38 38 w w.heap.size (fun k_ => (P1_ k_ ∨ w.heap.size ≤ k_)) (.slice A1 l1.length c1) l1 from Kd.V_mono hs1 (fun k_ hk => .inl hk))
 have HB := Aside0.mk (Below.refl w.heap.size w)
 have H : (cohousingref28_once.l0 k l0 l1 (wrap64 ((l0.length : Int) - 1))) = some r := h
 clear h
 have H' := Aside0.mk H
 clear H
 go_enter Try.func87, Try.ntmps87
 go_wp2
 go_loopg [1, 5] k (fun kq v1 v5 w' => ∃ (x1_1 : List (S38)) (x5_1 : Int), v5 = .int .i64 x5_1 ∧ Aside0 (cohousingref28_once.l0 kq l0 x1_1 x5_1 = some r) ∧ Aside0 (kq ≤ k) ∧ Aside0 (Kd.V k38 38 w' w.heap.size (fun k_ => (P1_ k_ ∨ w.heap.size ≤ k_)) v1 x1_1) ∧ Aside0 (Below w.heap.size w w'))
 case atStart => exact ⟨(l1), (wrap64 ((l0.length : Int) - 1)), sd_, H', ⟨Nat.le_refl _⟩, ⟨by (with_reducible repeat (first | apply Kd.V_alloc | apply Kd.V_drewN | apply Kd.V_drew)); exact HO1.out⟩, ⟨by repeat (first | (with_reducible first | exact HB.out | apply below_alloc | apply pw_below_drewN | apply below_drew1) | exact HB.out)⟩⟩
 case round =>
  clear H'
  try clear c1
  try clear p2
  obtain ⟨x1_1, x5_1, rfl, HA, HK1, HO_1, HB⟩ := hrel
  cases gk with
  | zero => exact absurd HA.out (by simp [cohousingref28_once.l0])
  | succ k1 =>
   have H := HA.out
   clear HA
   simp only [cohousingref28_once.l0] at H
   by_cases c3 : x5_1 ≥ 0
   ·rw [if_pos c3] at H
    have c3b0 : decide (0 ≤ x5_1) = true := decide_eq_true c3
    clear c3
    replace H := Option.bind_eq_some_iff.mp H
    obtain ⟨t323, A40, H⟩ := H
    replace H : (if (t323.length : Int) > 0 then ((cohousingref28_empty.f k1 x1_1).bind fun t326 => (if t326 = true then (cohousingref28_once.l0 k1 l0 x1_1 (wrap64 (x5_1 - 1))) else ((cohousingref28_equation.f k1 l0 x1_1 x5_1 t323).bind fun t327 => (cohousingref28_once.l0 k1 l0 t327 (wrap64 (x5_1 - 1)))))) else (cohousingref28_once.l0 k1 l0 x1_1 (wrap64 (x5_1 - 1)))) = some r := H
    have A4 := Aside0.mk A40
    clear A40
    by_cases c5 : (t323.length : Int) > 0
    ·rw [if_pos c5] at H
     have c5b0 : decide (0 < (t323.length : Int)) = true := decide_eq_true c5
     have c5b1 : decide (0 < t323.length) = true := decide_eq_true (by omega)
     clear c5
     replace H := Option.bind_eq_some_iff.mp H
     obtain ⟨t326, A60, H⟩ := H
     replace H : (if t326 = true then (cohousingref28_once.l0 k1 l0 x1_1 (wrap64 (x5_1 - 1))) else ((cohousingref28_equation.f k1 l0 x1_1 x5_1 t323).bind fun t327 => (cohousingref28_once.l0 k1 l0 t327 (wrap64 (x5_1 - 1))))) = some r := H
     have A6 := Aside0.mk A60
     clear A60
     by_cases c7 : t326 = true
     ·subst c7
      have H1 : (cohousingref28_once.l0 k1 l0 x1_1 (wrap64 (x5_1 - 1))) = some r := by rw [if_pos rfl] at H; exact H
      clear H
      have H := H1
      clear H1
      have H' := Aside0.mk H
      clear H
      go_wp2_with (first | ((with_reducible refine gate_callee (f := 63) rfl ?_); refine gl_ (some 16) Try.func63 #[.slice A0 l0.length c0, .int .i64 x5_1] ?_; (with_reducible refine (cohousingref28_below.calls k1 _ _ l0 x5_1 t323 _ ?side1 ?side2 A4.out).mono ?_); (case side1 => exact cc_ ((Kd.C_below HR0.out HB.out))); (case side2 => exact HC0.out); rintro e w8 ⟨v324, rfl, ho0, hb⟩; refine ⟨_, rfl, ?_⟩; have n0_ := Aside0.mk (Kd.V_elder' (by (with_reducible repeat (first | apply Kd.V_alloc | apply Kd.V_drewN | apply Kd.V_drew)); exact HO_1.out) (Kd.R_base ho0) hb); have n1_ := Aside0.mk (Kd.R_lower (Kd.R_newM (M := fun k_ => (w.heap.size ≤ k_)) ho0 (below_size (bb_ HB)) (fun k_ h_ => h_)) (below_size (bb_ HB))); have n2_ := Aside0.mk (below_step (bb_ HB) hb); clear HO_1; clear HB; have HO_1 := n0_; have HO325 := n1_; have HB := n2_; clear n0_ n1_ n2_; (try clear hb); (try clear hb2); (try clear hk); (try clear hi); (try clear ho0); obtain ⟨Ao9, co9, eo9⟩ := Kd.R_slice HO325.out; subst eo9; obtain ⟨Ao10, co10, eo10⟩ := Kd.V_slice HO_1.out; subst eo10) | (go_at_call 88; (with_reducible refine (cohousingref28_empty.calls k1 _ _ x1_1 true _ ?side1 ?side2 A6.out).mono ?_); (case side1 => exact cc_ ((Kd.V_reads' HO_1.out).2.2)); (case side2 => exact (Kd.V_reads' HO_1.out).2.1); rintro e w' ⟨rfl, ⟨nd, rfl⟩⟩))
      go_roundg k1
      case measure => have := HK1.out; omega
      case rel => exact ⟨(x1_1), (wrap64 (x5_1 - 1)), sd_, H', ⟨by have := HK1.out; omega⟩, ⟨by (with_reducible repeat (first | apply Kd.V_alloc | apply Kd.V_drewN | apply Kd.V_drew)); exact Kd.V_mono HO_1.out (fun _ hk => hk.1)⟩, ⟨by repeat (first | (with_reducible first | exact HB.out | apply below_alloc | apply pw_below_drewN | apply below_drew1) | exact HB.out)⟩⟩
     ·replace c7 := Bool.eq_false_iff.mpr c7
      subst c7
      have H1 : ((cohousingref28_equation.f k1 l0 x1_1 x5_1 t323).bind fun t327 => (cohousingref28_once.l0 k1 l0 t327 (wrap64 (x5_1 - 1)))) = some r := by rw [if_neg (show ¬ (false = true) by decide)] at H; exact H
      clear H
      have H := H1
      clear H1
      replace H := Option.bind_eq_some_iff.mp H
      obtain ⟨t327, A110, H⟩ := H
      replace H : (cohousingref28_once.l0 k1 l0 t327 (wrap64 (x5_1 - 1))) = some r := H
      have A11 := Aside0.mk A110
      clear A110
      have H' := Aside0.mk H
      clear H
      go_wp2_with (first | ((with_reducible refine gate_callee (f := 63) rfl ?_); refine gl_ (some 16) Try.func63 #[.slice A0 l0.length c0, .int .i64 x5_1] ?_; (with_reducible refine (cohousingref28_below.calls k1 _ _ l0 x5_1 t323 _ ?side1 ?side2 A4.out).mono ?_); (case side1 => exact cc_ ((Kd.C_below HR0.out HB.out))); (case side2 => exact HC0.out); rintro e w12 ⟨v324, rfl, ho0, hb⟩; refine ⟨_, rfl, ?_⟩; have n0_ := Aside0.mk (Kd.V_elder' (by (with_reducible repeat (first | apply Kd.V_alloc | apply Kd.V_drewN | apply Kd.V_drew)); exact HO_1.out) (Kd.R_base ho0) hb); have n1_ := Aside0.mk (Kd.R_lower (Kd.R_newM (M := fun k_ => (w.heap.size ≤ k_)) ho0 (below_size (bb_ HB)) (fun k_ h_ => h_)) (below_size (bb_ HB))); have n2_ := Aside0.mk (below_step (bb_ HB) hb); clear HO_1; clear HB; have HO_1 := n0_; have HO325 := n1_; have HB := n2_; clear n0_ n1_ n2_; (try clear hb); (try clear hb2); (try clear hk); (try clear hi); (try clear ho0); obtain ⟨Ao13, co13, eo13⟩ := Kd.R_slice HO325.out; subst eo13; obtain ⟨Ao14, co14, eo14⟩ := Kd.V_slice HO_1.out; subst eo14) | (go_at_call 88; (with_reducible refine (cohousingref28_empty.calls k1 _ _ x1_1 false _ ?side1 ?side2 A6.out).mono ?_); (case side1 => exact cc_ ((Kd.V_reads' HO_1.out).2.2)); (case side2 => exact (Kd.V_reads' HO_1.out).2.1); rintro e w' ⟨rfl, ⟨nd, rfl⟩⟩) | ((with_reducible refine gate_callee (f := 95) rfl ?_); refine gl_ (some 29) Try.func95 #[.slice A0 l0.length c0, .slice Ao14 x1_1.length co14, .int .i64 x5_1, .slice Ao13 t323.length co13] ?_; (with_reducible refine (cohousingref28_equation.calls k1 _ _ l0 _ _ x1_1 x5_1 _ _ t323 t327 _ ?side1 ?side2 ?side3 ?side4 ?side5 ?side6 A11.out).mono ?_); (case side1 => exact cc_ ((Kd.C_below HR0.out (bb_ HB)))); (case side2 => exact HC0.out); (case side3 => exact cc_ ((Kd.V_reads' HO_1.out).2.2)); (case side4 => exact (Kd.V_reads' HO_1.out).2.1); (case side5 => exact cc_ ((Kd.R_reads' HO325.out).2.2)); (case side6 => exact (Kd.R_reads' HO325.out).2.1); rintro e w15 ⟨v328, rfl, ho0, hb⟩; refine ⟨_, rfl, ?_⟩; have n0_ := Aside0.mk (Kd.V_elder' (by (with_reducible repeat (first | apply Kd.V_alloc | apply Kd.V_drewN | apply Kd.V_drew)); exact HO_1.out) (Kd.R_base ho0) hb); have n1_ := Aside0.mk (Kd.R_below (rr_ HO325) hb); have n2_ := Aside0.mk (Kd.R_lower (Kd.R_newM (M := fun k_ => (w.heap.size ≤ k_)) ho0 (below_size (bb_ HB)) (fun k_ h_ => h_)) (below_size (bb_ HB))); have n3_ := Aside0.mk (below_step (bb_ HB) hb); clear HO_1; clear HO325; clear HB; have HO_1 := n0_; have HO325 := n1_; have HO329 := n2_; have HB := n3_; clear n0_ n1_ n2_ n3_; (try clear hb); (try clear hb2); (try clear hk); (try clear hi); (try clear ho0)))
      go_roundg k1
      case measure => have := HK1.out; omega
      case rel => exact ⟨(t327), (wrap64 (x5_1 - 1)), sd_, H', ⟨by have := HK1.out; omega⟩, ⟨Kd.V_mono (Kd.R_V (by (with_reducible repeat (first | apply Kd.R_alloc | apply Kd.R_drewN | apply Kd.R_drew)); exact Kd.R_mono HO329.out (fun _ hk => hk.1))) (fun k_ hk => by first | exact ⟨(.inr (hk.1)), hk.2⟩ | exact (.inr (hk)))⟩, ⟨by repeat (first | (with_reducible first | exact HB.out | apply below_alloc | apply pw_below_drewN | apply below_drew1) | exact HB.out)⟩⟩
    ·rw [if_neg c5] at H
     have c5b0 : decide (0 < (t323.length : Int)) = false := decide_eq_false c5
     have c5b1 : decide (0 < t323.length) = false := decide_eq_false (by omega)
     clear c5
     have H' := Aside0.mk H
     clear H
     go_wp2_with (first | ((with_reducible refine gate_callee (f := 63) rfl ?_); refine gl_ (some 16) Try.func63 #[.slice A0 l0.length c0, .int .i64 x5_1] ?_; (with_reducible refine (cohousingref28_below.calls k1 _ _ l0 x5_1 t323 _ ?side1 ?side2 A4.out).mono ?_); (case side1 => exact cc_ ((Kd.C_below HR0.out HB.out))); (case side2 => exact HC0.out); rintro e w16 ⟨v324, rfl, ho0, hb⟩; refine ⟨_, rfl, ?_⟩; have n0_ := Aside0.mk (Kd.V_elder' (by (with_reducible repeat (first | apply Kd.V_alloc | apply Kd.V_drewN | apply Kd.V_drew)); exact HO_1.out) (Kd.R_base ho0) hb); have n1_ := Aside0.mk (Kd.R_lower (Kd.R_newM (M := fun k_ => (w.heap.size ≤ k_)) ho0 (below_size (bb_ HB)) (fun k_ h_ => h_)) (below_size (bb_ HB))); have n2_ := Aside0.mk (below_step (bb_ HB) hb); clear HO_1; clear HB; have HO_1 := n0_; have HO325 := n1_; have HB := n2_; clear n0_ n1_ n2_; (try clear hb); (try clear hb2); (try clear hk); (try clear hi); (try clear ho0); obtain ⟨Ao17, co17, eo17⟩ := Kd.R_slice HO325.out; subst eo17))
     go_roundg k1
     case measure => have := HK1.out; omega
     case rel => exact ⟨(x1_1), (wrap64 (x5_1 - 1)), sd_, H', ⟨by have := HK1.out; omega⟩, ⟨by (with_reducible repeat (first | apply Kd.V_alloc | apply Kd.V_drewN | apply Kd.V_drew)); exact Kd.V_mono HO_1.out (fun _ hk => hk.1)⟩, ⟨by repeat (first | (with_reducible first | exact HB.out | apply below_alloc | apply pw_below_drewN | apply below_drew1) | exact HB.out)⟩⟩
   ·rw [if_neg c3] at H
    have c3b0 : decide (0 ≤ x5_1) = false := decide_eq_false c3
    clear c3
    obtain rfl := Option.some.inj H
    go_wp2
    go_ret
    exact ⟨_, ew_, by (with_reducible repeat (first | apply Kd.V_alloc | apply Kd.V_drewN | apply Kd.V_drew)); exact HO_1.out, by repeat (first | (with_reducible first | exact HB.out | apply below_alloc | apply pw_below_drewN | apply below_drew1) | exact HB.out)⟩
end
section
def cohousingref28_bounds.l0 : Nat → List (S63) → List (S38) → Option ((List (S38)) × Bool)
 | 0, _, _ => none
 | k + 1, x0, x1 => (cohousingref28_once.f k x0 x1).bind fun t330 => ((cohousingref28_empty.f k t330).bind fun t333 => (if t333 = true then (some (([] : List (S38)), false)) else ((cohousingref28_Same.f k t330 x1).bind fun t334 => (if t334 = true then (some (t330, true)) else (cohousingref28_bounds.l0 k x0 t330)))))
def cohousingref28_bounds.f (k : Nat) (l0 : List (S63)) (l1 : List (S38)) : Option ((List (S38)) × Bool) := cohousingref28_bounds.l0 k l0 l1
theorem cohousingref28_bounds.mono_l : ∀ k, (∀ y0 y1, LeO (cohousingref28_bounds.l0 k y0 y1) (cohousingref28_bounds.l0 (k + 1) y0 y1))
 | 0 => fun _ _ r h => by simp [cohousingref28_bounds.l0] at h
 | k + 1 => by
  have ih0 := cohousingref28_bounds.mono_l k
  ·intro y0 y1
   unfold cohousingref28_bounds.l0
   repeat' first
   | (with_reducible exact ih0 _ _)
   | (with_reducible exact cohousingref28_Same.mono _ _ _)
   | (with_reducible exact cohousingref28_empty.mono _ _)
   | (with_reducible exact cohousingref28_once.mono _ _ _)
   | (with_reducible exact LeO.refl _)
   | (with_reducible exact LeO.none _)
   | (with_reducible refine LeO.ite ?_ ?_)
   | (with_reducible refine LeO.bind ?_ (fun _ => ?_))
   | exact ih0 _ _
   | exact cohousingref28_Same.mono _ _ _
   | exact cohousingref28_empty.mono _ _
   | exact cohousingref28_once.mono _ _ _
   | exact LeO.none _
   | refine LeO.ite ?_ ?_
   | refine LeO.bind ?_ (fun _ => ?_)
theorem cohousingref28_bounds.mono : ∀ a0 a1 k, LeO (cohousingref28_bounds.f k a0 a1) (cohousingref28_bounds.f (k + 1) a0 a1) := by
 intro a0 a1 k
 have ih0 := cohousingref28_bounds.mono_l k
 unfold cohousingref28_bounds.f
 repeat' first
   | (with_reducible exact ih0 _ _)
   | (with_reducible exact cohousingref28_Same.mono _ _ _)
   | (with_reducible exact cohousingref28_empty.mono _ _)
   | (with_reducible exact cohousingref28_once.mono _ _ _)
   | (with_reducible exact LeO.refl _)
   | (with_reducible exact LeO.none _)
   | (with_reducible refine LeO.ite ?_ ?_)
   | (with_reducible refine LeO.bind ?_ (fun _ => ?_))
   | exact ih0 _ _
   | exact cohousingref28_Same.mono _ _ _
   | exact cohousingref28_empty.mono _ _
   | exact cohousingref28_once.mono _ _ _
   | exact LeO.none _
   | refine LeO.ite ?_ ?_
   | refine LeO.bind ?_ (fun _ => ?_)
theorem cohousingref28_bounds.calls (k : Nat) (A0 : Option Addr) (c0 : Nat) (l0 : List (S63)) (P1_ : Nat → Prop) (A1 : Option Addr) (c1 : Nat) (l1 : List (S38)) (r1 : List (S38)) (r2 : Bool) (w : World) (hr0 : Kd.C k63 w A0 l0.length l0) (hc0 : l0.length ≤ c0) (hs1 : Kd.V k38 38 w w.heap.size (fun k_ => P1_ k_) (.slice A1 l1.length c1) l1) (h : cohousingref28_bounds.f k l0 l1 = some (r1, r2)) :
  Calls Try.prog 72 #[.slice A0 l0.length c0, .slice A1 l1.length c1] w fun e w' => ∃ v0_ : Value, e = .returned (.tuple #[v0_, .bool r2]) ∧ Kd.V k38 38 w' w.heap.size (fun k_ => (P1_ k_ ∨ w.heap.size ≤ k_)) v0_ r1 ∧ Below w.heap.size w w' := by
 have HR0 := Aside0.mk hr0
 have HC0 := Aside0.mk hc0
 clear hr0 hc0
 have HO1 := Aside0.mk (show Kd.V k38 38 w w.heap.size (fun k_ => (P1_ k_ ∨ w.heap.size ≤ k_)) (.slice A1 l1.length c1) l1 from Kd.V_mono hs1 (fun k_ hk => .inl hk))
 have HB := Aside0.mk (Below.refl w.heap.size w)
 have H : (cohousingref28_bounds.l0 k l0 l1) = some (r1, r2) := h
 clear h
 have H' := Aside0.mk H
 clear H
 go_enter Try.func72, Try.ntmps72
 go_wp2
 go_loopg [1] k (fun kq v1 w' => ∃ (x1_1 : List (S38)), Aside0 (cohousingref28_bounds.l0 kq l0 x1_1 = some (r1, r2)) ∧ Aside0 (kq ≤ k) ∧ Aside0 (Kd.V k38 38 w' w.heap.size (fun k_ => (P1_ k_ ∨ w.heap.size ≤ k_)) v1 x1_1) ∧ Aside0 (Below w.heap.size w w'))
 case atStart => exact ⟨(l1), H', ⟨Nat.le_refl _⟩, ⟨by (with_reducible repeat (first | apply Kd.V_alloc | apply Kd.V_drewN | apply Kd.V_drew)); exact HO1.out⟩, ⟨by repeat (first | (with_reducible first | exact HB.out | apply below_alloc | apply pw_below_drewN | apply below_drew1) | exact HB.out)⟩⟩
 case round =>
  clear H'
  try clear c1
  try clear p2
  obtain ⟨x1_1, HA, HK1, HO_1, HB⟩ := hrel
  cases gk with
  | zero => exact absurd HA.out (by simp [cohousingref28_bounds.l0])
  | succ k1 =>
   have H := HA.out
   clear HA
   simp only [cohousingref28_bounds.l0] at H
   replace H := Option.bind_eq_some_iff.mp H
   obtain ⟨t330, A30, H⟩ := H
   replace H : ((cohousingref28_empty.f k1 t330).bind fun t333 => (if t333 = true then (some (([] : List (S38)), false)) else ((cohousingref28_Same.f k1 t330 x1_1).bind fun t334 => (if t334 = true then (some (t330, true)) else (cohousingref28_bounds.l0 k1 l0 t330))))) = some (r1, r2) := H
   have A3 := Aside0.mk A30
   clear A30
   replace H := Option.bind_eq_some_iff.mp H
   obtain ⟨t333, A40, H⟩ := H
   replace H : (if t333 = true then (some (([] : List (S38)), false)) else ((cohousingref28_Same.f k1 t330 x1_1).bind fun t334 => (if t334 = true then (some (t330, true)) else (cohousingref28_bounds.l0 k1 l0 t330)))) = some (r1, r2) := H
   have A4 := Aside0.mk A40
   clear A40
   by_cases c5 : t333 = true
   ·subst c5
    have H1 : (some (([] : List (S38)), false)) = some (r1, r2) := by rw [if_pos rfl] at H; exact H
    clear H
    have H := H1
    clear H1
    simp only [Option.some.injEq, Prod.mk.injEq] at H
    obtain ⟨rfl, rfl⟩ := H
    obtain ⟨Ao6, co6, eo6⟩ := Kd.V_slice HO_1.out
    subst eo6
    go_wp2_with (first | ((with_reducible refine gate_callee (f := 87) rfl ?_); refine gl_ (some 10) Try.func87 #[.slice A0 l0.length c0, .slice Ao6 x1_1.length co6] ?_; (with_reducible refine (cohousingref28_once.calls k1 _ _ l0 (fun k_ => (P1_ k_ ∨ w.heap.size ≤ k_)) _ _ x1_1 t330 _ ?side1 ?side2 ?side3 A3.out).mono ?_); (case side1 => exact cc_ ((Kd.C_below HR0.out HB.out))); (case side2 => exact HC0.out); (case side3 => exact HO_1.out); rintro e w7 ⟨v331, rfl, ho0, hb⟩; refine ⟨_, rfl, ?_⟩; have n0_ := Aside0.mk (Kd.V_below (by (with_reducible repeat (first | apply Kd.V_alloc | apply Kd.V_drewN | apply Kd.V_drew)); exact HO_1.out) hb); have n1_ := Aside0.mk (Kd.V_lower (Kd.V_mono (ok' := fun k_ => (P1_ k_ ∨ w.heap.size ≤ k_)) ho0 (fun k_ hk_ => Or.elim hk_ (fun hs_ => hs_) (fun hn_ => (.inr (Nat.le_trans (below_size (bb_ HB)) hn_))))) (below_size (bb_ HB))); have n2_ := Aside0.mk (below_step (bb_ HB) hb); clear HO_1; clear HB; have HO_1 := n0_; have HO332 := n1_; have HB := n2_; clear n0_ n1_ n2_; (try clear hb); (try clear hb2); (try clear hk); (try clear hi); (try clear ho0); obtain ⟨Ao8, co8, eo8⟩ := Kd.V_slice HO332.out; subst eo8) | ((with_reducible refine gate_callee (f := 88) rfl ?_); refine gl_ (some 12) Try.func88 #[.slice Ao8 t330.length co8] ?_; (with_reducible refine (cohousingref28_empty.calls k1 _ _ t330 true _ ?side1 ?side2 A4.out).mono ?_); (case side1 => exact cc_ ((Kd.V_reads' HO332.out).2.2)); (case side2 => exact (Kd.V_reads' HO332.out).2.1); rintro e w' ⟨rfl, ⟨nd, rfl⟩⟩; refine ⟨_, rfl, ?_⟩))
    go_ret2
    exact ⟨_, ew_, Kd.V_mono (Kd.R_V (by first | exact (Kd.R_nil _ _ _ w.heap.size (fun k_ => w.heap.size ≤ k_)) | exact Kd.R_nil _ _ _ _ _ | exact Kd.N_nil _ _ _ _ _ | exact Kd.V_nil _ _ _ _ _ | exact Kd.Q_nil _ _ _ _ _ | exact Kd.S_nil _ _ _ _ _)) (fun k_ hk => by first | exact ⟨(.inr (hk.1)), hk.2⟩ | exact (.inr (hk))), by repeat (first | (with_reducible first | exact HB.out | apply below_alloc | apply pw_below_drewN | apply below_drew1) | exact HB.out)⟩
   ·replace c5 := Bool.eq_false_iff.mpr c5
    subst c5
    have H1 : ((cohousingref28_Same.f k1 t330 x1_1).bind fun t334 => (if t334 = true then (some (t330, true)) else (cohousingref28_bounds.l0 k1 l0 t330))) = some (r1, r2) := by rw [if_neg (show ¬ (false = true) by decide)] at H; exact H
    clear H
    have H := H1
    clear H1
    replace H := Option.bind_eq_some_iff.mp H
    obtain ⟨t334, A90, H⟩ := H
    replace H : (if t334 = true then (some (t330, true)) else (cohousingref28_bounds.l0 k1 l0 t330)) = some (r1, r2) := H
    have A9 := Aside0.mk A90
    clear A90
    by_cases c10 : t334 = true
    ·subst c10
     have H1 : (some (t330, true)) = some (r1, r2) := by rw [if_pos rfl] at H; exact H
     clear H
     have H := H1
     clear H1
     simp only [Option.some.injEq, Prod.mk.injEq] at H
     obtain ⟨rfl, rfl⟩ := H
     obtain ⟨Ao11, co11, eo11⟩ := Kd.V_slice HO_1.out
     subst eo11
     go_wp2_with (first | ((with_reducible refine gate_callee (f := 87) rfl ?_); refine gl_ (some 10) Try.func87 #[.slice A0 l0.length c0, .slice Ao11 x1_1.length co11] ?_; (with_reducible refine (cohousingref28_once.calls k1 _ _ l0 (fun k_ => (P1_ k_ ∨ w.heap.size ≤ k_)) _ _ x1_1 t330 _ ?side1 ?side2 ?side3 A3.out).mono ?_); (case side1 => exact cc_ ((Kd.C_below HR0.out HB.out))); (case side2 => exact HC0.out); (case side3 => exact HO_1.out); rintro e w12 ⟨v331, rfl, ho0, hb⟩; refine ⟨_, rfl, ?_⟩; have n0_ := Aside0.mk (Kd.V_below (by (with_reducible repeat (first | apply Kd.V_alloc | apply Kd.V_drewN | apply Kd.V_drew)); exact HO_1.out) hb); have n1_ := Aside0.mk (Kd.V_lower (Kd.V_mono (ok' := fun k_ => (P1_ k_ ∨ w.heap.size ≤ k_)) ho0 (fun k_ hk_ => Or.elim hk_ (fun hs_ => hs_) (fun hn_ => (.inr (Nat.le_trans (below_size (bb_ HB)) hn_))))) (below_size (bb_ HB))); have n2_ := Aside0.mk (below_step (bb_ HB) hb); clear HO_1; clear HB; have HO_1 := n0_; have HO332 := n1_; have HB := n2_; clear n0_ n1_ n2_; (try clear hb); (try clear hb2); (try clear hk); (try clear hi); (try clear ho0); obtain ⟨Ao13, co13, eo13⟩ := Kd.V_slice HO332.out; subst eo13) | ((with_reducible refine gate_callee (f := 88) rfl ?_); refine gl_ (some 12) Try.func88 #[.slice Ao13 t330.length co13] ?_; (with_reducible refine (cohousingref28_empty.calls k1 _ _ t330 false _ ?side1 ?side2 A4.out).mono ?_); (case side1 => exact cc_ ((Kd.V_reads' HO332.out).2.2)); (case side2 => exact (Kd.V_reads' HO332.out).2.1); rintro e w' ⟨rfl, ⟨nd, rfl⟩⟩; refine ⟨_, rfl, ?_⟩) | ((with_reducible refine gate_callee (f := 24) rfl ?_); refine gl_ (some 15) Try.func24 #[.slice Ao13 t330.length co13, .slice Ao11 x1_1.length co11] ?_; (with_reducible refine (cohousingref28_Same.calls k1 _ _ t330 _ _ x1_1 true _ ?side1 ?side2 ?side3 ?side4 A9.out).mono ?_); (case side1 => exact cc_ ((Kd.V_reads' HO332.out).2.2)); (case side2 => exact (Kd.V_reads' HO332.out).2.1); (case side3 => exact cc_ ((Kd.V_reads' HO_1.out).2.2)); (case side4 => exact (Kd.V_reads' HO_1.out).2.1); rintro e w' ⟨rfl, ⟨nd, rfl⟩⟩; refine ⟨_, rfl, ?_⟩))
     go_ret2
     exact ⟨_, ew_, by (with_reducible repeat (first | apply Kd.V_alloc | apply Kd.V_drewN | apply Kd.V_drew)); exact HO332.out, by repeat (first | (with_reducible first | exact HB.out | apply below_alloc | apply pw_below_drewN | apply below_drew1) | exact HB.out)⟩
    ·replace c10 := Bool.eq_false_iff.mpr c10
     subst c10
     have H1 : (cohousingref28_bounds.l0 k1 l0 t330) = some (r1, r2) := by rw [if_neg (show ¬ (false = true) by decide)] at H; exact H
     clear H
     have H := H1
     clear H1
     have H' := Aside0.mk H
     clear H
     obtain ⟨Ao14, co14, eo14⟩ := Kd.V_slice HO_1.out
     subst eo14
     go_wp2_with (first | ((with_reducible refine gate_callee (f := 87) rfl ?_); refine gl_ (some 10) Try.func87 #[.slice A0 l0.length c0, .slice Ao14 x1_1.length co14] ?_; (with_reducible refine (cohousingref28_once.calls k1 _ _ l0 (fun k_ => (P1_ k_ ∨ w.heap.size ≤ k_)) _ _ x1_1 t330 _ ?side1 ?side2 ?side3 A3.out).mono ?_); (case side1 => exact cc_ ((Kd.C_below HR0.out HB.out))); (case side2 => exact HC0.out); (case side3 => exact HO_1.out); rintro e w15 ⟨v331, rfl, ho0, hb⟩; refine ⟨_, rfl, ?_⟩; have n0_ := Aside0.mk (Kd.V_below (by (with_reducible repeat (first | apply Kd.V_alloc | apply Kd.V_drewN | apply Kd.V_drew)); exact HO_1.out) hb); have n1_ := Aside0.mk (Kd.V_lower (Kd.V_mono (ok' := fun k_ => (P1_ k_ ∨ w.heap.size ≤ k_)) ho0 (fun k_ hk_ => Or.elim hk_ (fun hs_ => hs_) (fun hn_ => (.inr (Nat.le_trans (below_size (bb_ HB)) hn_))))) (below_size (bb_ HB))); have n2_ := Aside0.mk (below_step (bb_ HB) hb); clear HO_1; clear HB; have HO_1 := n0_; have HO332 := n1_; have HB := n2_; clear n0_ n1_ n2_; (try clear hb); (try clear hb2); (try clear hk); (try clear hi); (try clear ho0); obtain ⟨Ao16, co16, eo16⟩ := Kd.V_slice HO332.out; subst eo16) | ((with_reducible refine gate_callee (f := 88) rfl ?_); refine gl_ (some 12) Try.func88 #[.slice Ao16 t330.length co16] ?_; (with_reducible refine (cohousingref28_empty.calls k1 _ _ t330 false _ ?side1 ?side2 A4.out).mono ?_); (case side1 => exact cc_ ((Kd.V_reads' HO332.out).2.2)); (case side2 => exact (Kd.V_reads' HO332.out).2.1); rintro e w' ⟨rfl, ⟨nd, rfl⟩⟩; refine ⟨_, rfl, ?_⟩) | ((with_reducible refine gate_callee (f := 24) rfl ?_); refine gl_ (some 15) Try.func24 #[.slice Ao16 t330.length co16, .slice Ao14 x1_1.length co14] ?_; (with_reducible refine (cohousingref28_Same.calls k1 _ _ t330 _ _ x1_1 false _ ?side1 ?side2 ?side3 ?side4 A9.out).mono ?_); (case side1 => exact cc_ ((Kd.V_reads' HO332.out).2.2)); (case side2 => exact (Kd.V_reads' HO332.out).2.1); (case side3 => exact cc_ ((Kd.V_reads' HO_1.out).2.2)); (case side4 => exact (Kd.V_reads' HO_1.out).2.1); rintro e w' ⟨rfl, ⟨nd, rfl⟩⟩; refine ⟨_, rfl, ?_⟩))
     go_roundg k1
     case measure => have := HK1.out; omega
     case rel => exact ⟨(t330), H', ⟨by have := HK1.out; omega⟩, ⟨by (with_reducible repeat (first | apply Kd.V_alloc | apply Kd.V_drewN | apply Kd.V_drew)); exact HO332.out⟩, ⟨by repeat (first | (with_reducible first | exact HB.out | apply below_alloc | apply pw_below_drewN | apply below_drew1) | exact HB.out)⟩⟩
end
section
def cohousingref28_Bounds.j0 : Nat → List (S63) → List (S38) → Bool → Option ((List (S38)) × Int)
 | 0, _, _, _ => none
 | k + 1, x0, x1, x20 => if x20 = true then (some (([] : List (S38)), 1)) else ((cohousingref28_bounds.f k x0 x1).bind fun bt337 => (if bt337.2 = true then ((some (([] : List (S38)) : List (S38))).bind fun y341 => (if y341.length + bt337.1.length < 8796093022208 then (some ((y341 ++ bt337.1), 0)) else (none))) else (some (([] : List (S38)), 30))))
def cohousingref28_Bounds.f (k : Nat) (l0 : List (S63)) (l1 : List (S38)) : Option ((List (S38)) × Int) := (cohousingref28_Valid.f k l0).bind fun t335 => ((cohousingref28_Belongs.f l0 l1).bind fun t336 => (if t335 = true then (cohousingref28_Bounds.j0 k l0 l1 (!t336)) else (cohousingref28_Bounds.j0 k l0 l1 true)))
theorem cohousingref28_Bounds.mono_l : ∀ k, (∀ y0 y1 y2, LeO (cohousingref28_Bounds.j0 k y0 y1 y2) (cohousingref28_Bounds.j0 (k + 1) y0 y1 y2))
 | 0 => fun _ _ _ r h => by simp [cohousingref28_Bounds.j0] at h
 | k + 1 => by
  have ih0 := cohousingref28_Bounds.mono_l k
  ·intro y0 y1 y2
   unfold cohousingref28_Bounds.j0
   repeat' first
   | (with_reducible exact ih0 _ _ _)
   | (with_reducible exact cohousingref28_Valid.mono _ _)
   | (with_reducible exact cohousingref28_bounds.mono _ _ _)
   | (with_reducible exact LeO.refl _)
   | (with_reducible exact LeO.none _)
   | (with_reducible refine LeO.ite ?_ ?_)
   | (with_reducible refine LeO.bind ?_ (fun _ => ?_))
   | exact ih0 _ _ _
   | exact cohousingref28_Valid.mono _ _
   | exact cohousingref28_bounds.mono _ _ _
   | exact LeO.none _
   | refine LeO.ite ?_ ?_
   | refine LeO.bind ?_ (fun _ => ?_)
theorem cohousingref28_Bounds.mono : ∀ a0 a1 k, LeO (cohousingref28_Bounds.f k a0 a1) (cohousingref28_Bounds.f (k + 1) a0 a1) := by
 intro a0 a1 k
 have ih0 := cohousingref28_Bounds.mono_l k
 unfold cohousingref28_Bounds.f
 repeat' first
   | (with_reducible exact ih0 _ _ _)
   | (with_reducible exact cohousingref28_Valid.mono _ _)
   | (with_reducible exact cohousingref28_bounds.mono _ _ _)
   | (with_reducible exact LeO.refl _)
   | (with_reducible exact LeO.none _)
   | (with_reducible refine LeO.ite ?_ ?_)
   | (with_reducible refine LeO.bind ?_ (fun _ => ?_))
   | exact ih0 _ _ _
   | exact cohousingref28_Valid.mono _ _
   | exact cohousingref28_bounds.mono _ _ _
   | exact LeO.none _
   | refine LeO.ite ?_ ?_
   | refine LeO.bind ?_ (fun _ => ?_)
theorem cohousingref28_Bounds.calls (k : Nat) (A0 : Option Addr) (c0 : Nat) (l0 : List (S63)) (A1 : Option Addr) (c1 : Nat) (l1 : List (S38)) (r1 : List (S38)) (r2 : Int) (w : World) (hr0 : Kd.C k63 w A0 l0.length l0) (hc0 : l0.length ≤ c0) (hr1 : Kd.C k38 w A1 l1.length l1) (hc1 : l1.length ≤ c1) (h : cohousingref28_Bounds.f k l0 l1 = some (r1, r2)) :
  Calls Try.prog 51 #[.slice A0 l0.length c0, .slice A1 l1.length c1] w fun e w' => ∃ v0_ : Value, e = .returned (.tuple #[v0_, .int .i64 r2]) ∧ Kd.R k38 38 w' w.heap.size (fun _ => True) v0_ r1 ∧ Below w.heap.size w w' := by
 have HR0 := Aside0.mk hr0
 have HC0 := Aside0.mk hc0
 clear hr0 hc0
 have HR1 := Aside0.mk hr1
 have HC1 := Aside0.mk hc1
 clear hr1 hc1
 have HB := Aside0.mk (Below.refl w.heap.size w)
 have H : ((cohousingref28_Valid.f k l0).bind fun t335 => ((cohousingref28_Belongs.f l0 l1).bind fun t336 => (if t335 = true then (cohousingref28_Bounds.j0 k l0 l1 (!t336)) else (cohousingref28_Bounds.j0 k l0 l1 true)))) = some (r1, r2) := h
 clear h
 replace H := Option.bind_eq_some_iff.mp H
 obtain ⟨t335, A30, H⟩ := H
 replace H : ((cohousingref28_Belongs.f l0 l1).bind fun t336 => (if t335 = true then (cohousingref28_Bounds.j0 k l0 l1 (!t336)) else (cohousingref28_Bounds.j0 k l0 l1 true))) = some (r1, r2) := H
 have A3 := Aside0.mk A30
 clear A30
 replace H := Option.bind_eq_some_iff.mp H
 obtain ⟨t336, A40, H⟩ := H
 replace H : (if t335 = true then (cohousingref28_Bounds.j0 k l0 l1 (!t336)) else (cohousingref28_Bounds.j0 k l0 l1 true)) = some (r1, r2) := H
 have A4 := Aside0.mk A40
 clear A40
 have HC5 := Aside0.mk H
 clear H
 go_enter Try.func51, Try.ntmps51
 go_upto_region 3 with (first | ((with_reducible refine gate_callee (f := 70) rfl ?_); refine gl_ (some 11) Try.func70 #[.slice A0 l0.length c0] ?_; (with_reducible refine (cohousingref28_Valid.calls k _ _ l0 t335 _ ?side1 ?side2 A3.out).mono ?_); (case side1 => exact cc_ (HR0.out)); (case side2 => exact HC0.out); rintro e w6 ⟨rfl, hb⟩; refine ⟨_, rfl, ?_⟩; have n0_ := Aside0.mk (below_step (bb_ HB) hb); clear HB; have HB := n0_; clear n0_; (try clear hb); (try clear hb2); (try clear hk); (try clear hi)) | ((with_reducible refine gate_callee (f := 71) rfl ?_); refine gl_ (some 14) Try.func71 #[.slice A0 l0.length c0, .slice A1 l1.length c1] ?_; (with_reducible refine (cohousingref28_Belongs.calls _ _ l0 _ _ l1 t336 _ ?side1 ?side2 ?side3 ?side4 A4.out).mono ?_); (case side1 => exact cc_ ((Kd.C_below HR0.out HB.out))); (case side2 => exact HC0.out); (case side3 => exact cc_ ((Kd.C_below HR1.out HB.out))); (case side4 => exact HC1.out); rintro e w7 ⟨rfl, hb⟩; refine ⟨_, rfl, ?_⟩; have n0_ := Aside0.mk (below_step (bb_ HB) hb); clear HB; have HB := n0_; clear n0_; (try clear hb); (try clear hb2); (try clear hk); (try clear hi)))
 (try simp only [Act.put, sI_, s0_, sS_])
 go_cut [20] (fun v20 wc => ∃ (kq : Nat) (x20_4 : Bool), v20 = .bool x20_4 ∧ Aside0 (cohousingref28_Bounds.j0 kq l0 l1 x20_4 = some (r1, r2)) ∧ Aside0 (kq ≤ k) ∧ Aside0 (Below w.heap.size w wc))
 case first =>
  have H := HC5.out
  clear HC5
  by_cases c8 : t335 = true
  ·subst c8
   have H1 : (cohousingref28_Bounds.j0 k l0 l1 (!t336)) = some (r1, r2) := by rw [if_pos rfl] at H; exact H
   clear H
   have H := H1
   clear H1
   have H' := Aside0.mk H
   clear H
   go_wp2
   go_meet
   case rel => exact ⟨_, (!t336), sd_, H', ⟨by first | omega | exact Nat.le_refl _⟩, ⟨by repeat (first | (with_reducible first | exact HB.out | apply below_alloc | apply pw_below_drewN | apply below_drew1) | exact HB.out)⟩⟩
  ·replace c8 := Bool.eq_false_iff.mpr c8
   subst c8
   have H1 : (cohousingref28_Bounds.j0 k l0 l1 true) = some (r1, r2) := by rw [if_neg (show ¬ (false = true) by decide)] at H; exact H
   clear H
   have H := H1
   clear H1
   have H' := Aside0.mk H
   clear H
   go_wp2
   go_meet
   case rel => exact ⟨_, (true), sd_, H', ⟨by first | omega | exact Nat.le_refl _⟩, ⟨by repeat (first | (with_reducible first | exact HB.out | apply below_alloc | apply pw_below_drewN | apply below_drew1) | exact HB.out)⟩⟩
 case rest =>
  clear HC5
  try clear c1
  try clear p2
  try clear c5
  try clear c7
  try clear c8
  obtain ⟨kq, x20_4, rfl, HA, HJ4, HB⟩ := hcut
  cases kq with
  | zero => exact absurd HA.out (by simp [cohousingref28_Bounds.j0])
  | succ kj4 =>
   have H := HA.out
   clear HA
   simp only [cohousingref28_Bounds.j0] at H
   by_cases c9 : x20_4 = true
   ·subst c9
    have H1 : (some (([] : List (S38)), 1)) = some (r1, r2) := by rw [if_pos rfl] at H; exact H
    clear H
    have H := H1
    clear H1
    simp only [Option.some.injEq, Prod.mk.injEq] at H
    obtain ⟨rfl, rfl⟩ := H
    go_wp2
    go_ret2
    exact ⟨_, ew_, by first | exact Kd.R_nil _ _ _ _ _ | exact Kd.N_nil _ _ _ _ _ | exact Kd.V_nil _ _ _ _ _ | exact Kd.Q_nil _ _ _ _ _ | exact Kd.S_nil _ _ _ _ _, by repeat (first | (with_reducible first | exact HB.out | apply below_alloc | apply pw_below_drewN | apply below_drew1) | exact HB.out)⟩
   ·replace c9 := Bool.eq_false_iff.mpr c9
    subst c9
    have H1 : ((cohousingref28_bounds.f kj4 l0 l1).bind fun bt337 => (if bt337.2 = true then ((some (([] : List (S38)) : List (S38))).bind fun y341 => (if y341.length + bt337.1.length < 8796093022208 then (some ((y341 ++ bt337.1), 0)) else (none))) else (some (([] : List (S38)), 30)))) = some (r1, r2) := by rw [if_neg (show ¬ (false = true) by decide)] at H; exact H
    clear H
    have H := H1
    clear H1
    replace H := Option.bind_eq_some_iff.mp H
    obtain ⟨⟨t337, t340⟩, A100, H⟩ := H
    replace H : (if t340 = true then ((some (([] : List (S38)) : List (S38))).bind fun y341 => (if y341.length + t337.length < 8796093022208 then (some ((y341 ++ t337), 0)) else (none))) else (some (([] : List (S38)), 30))) = some (r1, r2) := H
    have A10 := Aside0.mk A100
    clear A100
    by_cases c11 : t340 = true
    ·subst c11
     have H1 : ((some (([] : List (S38)) : List (S38))).bind fun y341 => (if y341.length + t337.length < 8796093022208 then (some ((y341 ++ t337), 0)) else (none))) = some (r1, r2) := by rw [if_pos rfl] at H; exact H
     clear H
     have H := H1
     clear H1
     obtain ⟨y341, hy341⟩ : ∃ y_ : List (S38), y_ = (([] : List (S38))) := ⟨_, rfl⟩
     replace H : (if y341.length + t337.length < 8796093022208 then (some ((y341 ++ t337), 0)) else (none)) = some (r1, r2) := by first | (rw [hy341]; with_reducible exact H) | (have H2_ := (Option.bind_some _ _).symm.trans H; rw [hy341]; with_reducible exact H2_) | (have H2_ := (Option.bind_some _ _).symm.trans H; with_reducible exact H2_) | with_reducible exact H | (rw [hy341]; exact H) | exact H
     have Ny341 := Aside0.mk hy341
     clear hy341
     by_cases c12 : y341.length + t337.length < 8796093022208
     ·rw [if_pos c12] at H
      have LMc12 := Aside0.mk c12
      clear c12
      obtain ⟨y344, hy344⟩ : ∃ y_ : List (S38), y_ = (y341 ++ t337) := ⟨_, rfl⟩
      replace H : (some (y344, 0)) = some (r1, r2) := by first | (rw [hy344]; with_reducible exact H) | (have H2_ := (Option.bind_some _ _).symm.trans H; rw [hy344]; with_reducible exact H2_) | (have H2_ := (Option.bind_some _ _).symm.trans H; with_reducible exact H2_) | with_reducible exact H | (rw [hy344]; exact H) | exact H
      have Ny344 := Aside0.mk hy344
      clear hy344
      simp only [Option.some.injEq, Prod.mk.injEq] at H
      obtain ⟨rfl, rfl⟩ := H
      go_wp2_with (first | ((with_reducible refine gate_callee (f := 72) rfl ?_); refine gl_ (some 24) Try.func72 #[.slice A0 l0.length c0, .slice A1 l1.length c1] ?_; (with_reducible refine (cohousingref28_bounds.calls kj4 _ _ l0 (fun k_ => k_ < w.heap.size) _ _ l1 t337 true _ ?side1 ?side2 ?side3 A10.out).mono ?_); (case side1 => exact cc_ ((Kd.C_below HR0.out HB.out))); (case side2 => exact HC0.out); (case side3 => exact Kd.V_mk HC1.out (Kd.F_below (Kd.C_F k38_heap HR1.out) (bb_ HB))); rintro e w13 ⟨v338, rfl, ho0, hb⟩; refine ⟨_, rfl, ?_⟩; have n0_ := Aside0.mk (Kd.V_lower (Kd.V_mono (ok' := fun k_ => True) ho0 (fun k_ hk_ => trivial)) (below_size (bb_ HB))); have n1_ := Aside0.mk (below_step (bb_ HB) hb); clear HB; have HO339 := n0_; have HB := n1_; clear n0_ n1_; (try clear hb); (try clear hb2); (try clear hk); (try clear hi); (try clear ho0)) | ((with_reducible refine gate_dst (N := 29) rfl ?_); refine Kd.R_lit k38 _ 38 ?hg (N := 29) ?hd (xs := ([] : List (S38))) (inner := []) (ok := fun _ => True) (okp := fun _ => True) ?hr ?hp (fun _ hk => hk) trivial (Below.refl _ _) (Nat.le_refl _) (by simp) ?_; (case hd => rfl); (case hg => rfl); (case hr => first | (go_simp; done) | (go_simp; rfl)); (case hp => exact (Reps.none _ _)); intro v342 w14 ho15 hb hg_ hnew_; clear hg_ hnew_; (first | rw [← Ny341.out] at ho15 | (simp only [Int.reduceToNat] at ho15; rw [← Ny341.out] at ho15)); have n0_ := Aside0.mk (Kd.V_elder' (by (with_reducible repeat (first | apply Kd.V_alloc | apply Kd.V_drewN | apply Kd.V_drew)); exact HO339.out) (Kd.R_base ho15) hb); have n1_ := Aside0.mk (Kd.R_lower ho15 (below_size (bb_ HB))); have n2_ := Aside0.mk (below_step (bb_ HB) hb); clear HO339; clear HB; have HO339 := n0_; have HO343 := n1_; have HB := n2_; clear n0_ n1_ n2_; clear hb ho15; obtain ⟨Ao17, co17, eo17⟩ := Kd.V_slice HO339.out; subst eo17) | ((with_reducible refine gate_builtin (b := .append) (xs := #[.tmp 29, .tmp 30]) rfl ?_); at_builtin; refine Kd.R_append_rows k38 (w0 := w) w.heap.size rfl (.tmp 29) (.tmp 30) 23 38 (.agg #[(.int .i64 0), (.int .i64 0)]) 16 rfl Try.underlying23 info38 rfl (by decide) (by omega) v342 y341 t337 _ _ _ (fun _ => True) (fun _ => False) rfl rfl ?aO ?aR (fun _ _ h => h) (fun _ h => h.elim) ?aF ?aB ?aS ?aL ?_; (case aR => exact cc_ ((Kd.V_reads' HO339.out).2.2)); (case aB => exact (bb_ HB)); (case aF => exact (fun _ _ => trivial)); (case aO => exact (rr_ HO343)); (case aS => exact (below_size (bb_ HB))); (case aL => have := LMc12.out; omega); intro v345 w16 ho hb hg hat; rw [← Ny344.out] at ho; have n0_ := Aside0.mk (Kd.V_afterv (ok := (fun _ => True)) (by (with_reducible repeat (first | apply Kd.V_alloc | apply Kd.V_drewN | apply Kd.V_drew)); exact HO339.out) hg hat); have n1_ := Aside0.mk (hb); have n2_ := Aside0.mk (ho); clear HO339; clear HB; clear HO343; have HO339 := n0_; have HB := n1_; have HO346 := n2_; clear n0_ n1_ n2_; clear ho hb hg hat))
      go_ret2
      exact ⟨_, ew_, by (with_reducible repeat (first | apply Kd.R_alloc | apply Kd.R_drewN | apply Kd.R_drew)); exact HO346.out, by repeat (first | (with_reducible first | exact HB.out | apply below_alloc | apply pw_below_drewN | apply below_drew1) | exact HB.out)⟩
     ·rw [if_neg c12] at H
      exact absurd H (by simp)
    ·replace c11 := Bool.eq_false_iff.mpr c11
     subst c11
     have H1 : (some (([] : List (S38)), 30)) = some (r1, r2) := by rw [if_neg (show ¬ (false = true) by decide)] at H; exact H
     clear H
     have H := H1
     clear H1
     simp only [Option.some.injEq, Prod.mk.injEq] at H
     obtain ⟨rfl, rfl⟩ := H
     go_wp2_with (first | ((with_reducible refine gate_callee (f := 72) rfl ?_); refine gl_ (some 24) Try.func72 #[.slice A0 l0.length c0, .slice A1 l1.length c1] ?_; (with_reducible refine (cohousingref28_bounds.calls kj4 _ _ l0 (fun k_ => k_ < w.heap.size) _ _ l1 t337 false _ ?side1 ?side2 ?side3 A10.out).mono ?_); (case side1 => exact cc_ ((Kd.C_below HR0.out HB.out))); (case side2 => exact HC0.out); (case side3 => exact Kd.V_mk HC1.out (Kd.F_below (Kd.C_F k38_heap HR1.out) (bb_ HB))); rintro e w18 ⟨v338, rfl, ho0, hb⟩; refine ⟨_, rfl, ?_⟩; have n0_ := Aside0.mk (Kd.V_lower (Kd.V_mono (ok' := fun k_ => True) ho0 (fun k_ hk_ => trivial)) (below_size (bb_ HB))); have n1_ := Aside0.mk (below_step (bb_ HB) hb); clear HB; have HO339 := n0_; have HB := n1_; clear n0_ n1_; (try clear hb); (try clear hb2); (try clear hk); (try clear hi); (try clear ho0)))
     go_ret2
     exact ⟨_, ew_, by first | exact Kd.R_nil _ _ _ _ _ | exact Kd.N_nil _ _ _ _ _ | exact Kd.V_nil _ _ _ _ _ | exact Kd.Q_nil _ _ _ _ _ | exact Kd.S_nil _ _ _ _ _, by repeat (first | (with_reducible first | exact HB.out | apply below_alloc | apply pw_below_drewN | apply below_drew1) | exact HB.out)⟩
end
section
mutual
def cohousingref29_Network.j0 : Nat → Int → List Int → List (S38) → List Int → Int → Bool → Option ((List (S43)) × Int × Int)
 | 0, _, _, _, _, _, _ => none
 | k + 1, x0, x3, x11, x13, x14, x50 => if x50 = true then (some (([] : List (S43)), 0, 1)) else (if 0 ≤ x14 then (if x14 < (x11.length : Int) then (if ((rd_T38 x11 x14).f0) = ((rd_T38 x11 x14).f1) then (cohousingref29_Network.j1 k x0 x3 x11 x13 x14 (((rd_T38 x11 x14).f0) == 0)) else (cohousingref29_Network.j1 k x0 x3 x11 x13 x14 true)) else (none)) else (none))
def cohousingref29_Network.j1 : Nat → Int → List Int → List (S38) → List Int → Int → Bool → Option ((List (S43)) × Int × Int)
 | 0, _, _, _, _, _, _ => none
 | k + 1, x0, x3, x11, x13, x14, x69 => if x69 = true then (some (([] : List (S43)), 0, 3)) else (cohousingref29_Network.l0 k x0 x3 x11 x13 x14 ([] : List (S38)) 0)
def cohousingref29_Network.l0 : Nat → Int → List Int → List (S38) → List Int → Int → List (S38) → Int → Option ((List (S43)) × Int × Int)
 | 0, _, _, _, _, _, _, _ => none
 | k + 1, x0, x3, x11, x13, x14, x17, x18 => if x18 < (x13.length : Int) then (if 0 ≤ x18 then (if 0 ≤ (rd x13 x18) then (if (rd x13 x18) < (x11.length : Int) then (if x17.length < 8796093022208 then (cohousingref29_Network.l0 k x0 x3 x11 x13 x14 (x17 ++ [(⟨(rd_T38 x11 (rd x13 x18)).f0, (rd_T38 x11 (rd x13 x18)).f1⟩ : S38)]) (wrap64 (x18 + 1))) else (none)) else (none)) else (none)) else (none)) else (if 0 ≤ x14 then (if x14 < (x11.length : Int) then ((cohousingref29_Share.f k x0 ((rd_T38 x11 x14).f0) x3 x17).bind fun bt366 => (some (bt366.1, bt366.2.1, bt366.2.2))) else (none)) else (none))
end
def cohousingref29_Network.f (k : Nat) (a0 : Int) (l1 : List (S63)) (l2 : List (S38)) (l3 : List Int) : Option ((List (S43)) × Int × Int) := (cohousingref28_Bounds.f k l1 l2).bind fun bt347 => (if bt347.2 = 0 then ((cohousingref29_Leaves.f k l1).bind fun t351 => ((cohousingref29_Root.f k l1).bind fun t354 => ((cohousingref29_cost.f a0).bind fun t355 => ((cohousingref29_Homes.f k l3 (t351.length : Int)).bind fun t356 => (if t355 = true then (if t356 = true then (cohousingref29_Network.j0 k a0 l3 bt347.1 t351 t354 (decide (t354 < 0))) else (cohousingref29_Network.j0 k a0 l3 bt347.1 t351 t354 true)) else (cohousingref29_Network.j0 k a0 l3 bt347.1 t351 t354 true)))))) else (some (([] : List (S43)), 0, bt347.2)))
theorem cohousingref29_Network.mono_l : ∀ k, (∀ y0 y1 y2 y3 y4 y5, LeO (cohousingref29_Network.j0 k y0 y1 y2 y3 y4 y5) (cohousingref29_Network.j0 (k + 1) y0 y1 y2 y3 y4 y5)) ∧ (∀ y0 y1 y2 y3 y4 y5, LeO (cohousingref29_Network.j1 k y0 y1 y2 y3 y4 y5) (cohousingref29_Network.j1 (k + 1) y0 y1 y2 y3 y4 y5)) ∧ (∀ y0 y1 y2 y3 y4 y5 y6, LeO (cohousingref29_Network.l0 k y0 y1 y2 y3 y4 y5 y6) (cohousingref29_Network.l0 (k + 1) y0 y1 y2 y3 y4 y5 y6))
 | 0 => ⟨fun _ _ _ _ _ _ r h => by simp [cohousingref29_Network.j0] at h, fun _ _ _ _ _ _ r h => by simp [cohousingref29_Network.j1] at h, fun _ _ _ _ _ _ _ r h => by simp [cohousingref29_Network.l0] at h⟩
 | k + 1 => by
  obtain ⟨ih0, ih1, ih2⟩ := cohousingref29_Network.mono_l k
  refine ⟨?_, ?_, ?_⟩
  ·intro y0 y1 y2 y3 y4 y5
   unfold cohousingref29_Network.j0
   repeat' first
   | (with_reducible exact ih0 _ _ _ _ _ _)
   | (with_reducible exact ih1 _ _ _ _ _ _)
   | (with_reducible exact ih2 _ _ _ _ _ _ _)
   | (with_reducible exact cohousingref28_Bounds.mono _ _ _)
   | (with_reducible exact cohousingref29_Homes.mono _ _ _)
   | (with_reducible exact cohousingref29_Leaves.mono _ _)
   | (with_reducible exact cohousingref29_Root.mono _ _)
   | (with_reducible exact cohousingref29_Share.mono _ _ _ _ _)
   | (with_reducible exact LeO.refl _)
   | (with_reducible exact LeO.none _)
   | (with_reducible refine LeO.ite ?_ ?_)
   | (with_reducible refine LeO.bind ?_ (fun _ => ?_))
   | exact ih0 _ _ _ _ _ _
   | exact ih1 _ _ _ _ _ _
   | exact ih2 _ _ _ _ _ _ _
   | exact cohousingref28_Bounds.mono _ _ _
   | exact cohousingref29_Homes.mono _ _ _
   | exact cohousingref29_Leaves.mono _ _
   | exact cohousingref29_Root.mono _ _
   | exact cohousingref29_Share.mono _ _ _ _ _
   | exact LeO.none _
   | refine LeO.ite ?_ ?_
   | refine LeO.bind ?_ (fun _ => ?_)
  ·intro y0 y1 y2 y3 y4 y5
   unfold cohousingref29_Network.j1
   repeat' first
   | (with_reducible exact ih0 _ _ _ _ _ _)
   | (with_reducible exact ih1 _ _ _ _ _ _)
   | (with_reducible exact ih2 _ _ _ _ _ _ _)
   | (with_reducible exact cohousingref28_Bounds.mono _ _ _)
   | (with_reducible exact cohousingref29_Homes.mono _ _ _)
   | (with_reducible exact cohousingref29_Leaves.mono _ _)
   | (with_reducible exact cohousingref29_Root.mono _ _)
   | (with_reducible exact cohousingref29_Share.mono _ _ _ _ _)
   | (with_reducible exact LeO.refl _)
   | (with_reducible exact LeO.none _)
   | (with_reducible refine LeO.ite ?_ ?_)
   | (with_reducible refine LeO.bind ?_ (fun _ => ?_))
   | exact ih0 _ _ _ _ _ _
   | exact ih1 _ _ _ _ _ _
   | exact ih2 _ _ _ _ _ _ _
   | exact cohousingref28_Bounds.mono _ _ _
   | exact cohousingref29_Homes.mono _ _ _
   | exact cohousingref29_Leaves.mono _ _
   | exact cohousingref29_Root.mono _ _
   | exact cohousingref29_Share.mono _ _ _ _ _
   | exact LeO.none _
   | refine LeO.ite ?_ ?_
   | refine LeO.bind ?_ (fun _ => ?_)
  ·intro y0 y1 y2 y3 y4 y5 y6
   unfold cohousingref29_Network.l0
   repeat' first
   | (with_reducible exact ih0 _ _ _ _ _ _)
   | (with_reducible exact ih1 _ _ _ _ _ _)
   | (with_reducible exact ih2 _ _ _ _ _ _ _)
   | (with_reducible exact cohousingref28_Bounds.mono _ _ _)
   | (with_reducible exact cohousingref29_Homes.mono _ _ _)
   | (with_reducible exact cohousingref29_Leaves.mono _ _)
   | (with_reducible exact cohousingref29_Root.mono _ _)
   | (with_reducible exact cohousingref29_Share.mono _ _ _ _ _)
   | (with_reducible exact LeO.refl _)
   | (with_reducible exact LeO.none _)
   | (with_reducible refine LeO.ite ?_ ?_)
   | (with_reducible refine LeO.bind ?_ (fun _ => ?_))
   | exact ih0 _ _ _ _ _ _
   | exact ih1 _ _ _ _ _ _
   | exact ih2 _ _ _ _ _ _ _
   | exact cohousingref28_Bounds.mono _ _ _
   | exact cohousingref29_Homes.mono _ _ _
   | exact cohousingref29_Leaves.mono _ _
   | exact cohousingref29_Root.mono _ _
   | exact cohousingref29_Share.mono _ _ _ _ _
   | exact LeO.none _
   | refine LeO.ite ?_ ?_
   | refine LeO.bind ?_ (fun _ => ?_)
theorem cohousingref29_Network.mono : ∀ a0 a1 a2 a3 k, LeO (cohousingref29_Network.f k a0 a1 a2 a3) (cohousingref29_Network.f (k + 1) a0 a1 a2 a3) := by
 intro a0 a1 a2 a3 k
 obtain ⟨ih0, ih1, ih2⟩ := cohousingref29_Network.mono_l k
 unfold cohousingref29_Network.f
 repeat' first
   | (with_reducible exact ih0 _ _ _ _ _ _)
   | (with_reducible exact ih1 _ _ _ _ _ _)
   | (with_reducible exact ih2 _ _ _ _ _ _ _)
   | (with_reducible exact cohousingref28_Bounds.mono _ _ _)
   | (with_reducible exact cohousingref29_Homes.mono _ _ _)
   | (with_reducible exact cohousingref29_Leaves.mono _ _)
   | (with_reducible exact cohousingref29_Root.mono _ _)
   | (with_reducible exact cohousingref29_Share.mono _ _ _ _ _)
   | (with_reducible exact LeO.refl _)
   | (with_reducible exact LeO.none _)
   | (with_reducible refine LeO.ite ?_ ?_)
   | (with_reducible refine LeO.bind ?_ (fun _ => ?_))
   | exact ih0 _ _ _ _ _ _
   | exact ih1 _ _ _ _ _ _
   | exact ih2 _ _ _ _ _ _ _
   | exact cohousingref28_Bounds.mono _ _ _
   | exact cohousingref29_Homes.mono _ _ _
   | exact cohousingref29_Leaves.mono _ _
   | exact cohousingref29_Root.mono _ _
   | exact cohousingref29_Share.mono _ _ _ _ _
   | exact LeO.none _
   | refine LeO.ite ?_ ?_
   | refine LeO.bind ?_ (fun _ => ?_)
theorem cohousingref29_Network.calls (k : Nat) (a0 : Int) (A1 : Option Addr) (c1 : Nat) (l1 : List (S63)) (A2 : Option Addr) (c2 : Nat) (l2 : List (S38)) (A3 : Option Addr) (c3 : Nat) (l3 : List Int) (r1 : List (S43)) (r2 : Int) (r3 : Int) (w : World) (hr1 : Kd.C k63 w A1 l1.length l1) (hc1 : l1.length ≤ c1) (hr2 : Kd.C k38 w A2 l2.length l2) (hc2 : l2.length ≤ c2) (hr3 : Kd.C (Kd.int .i64) w A3 l3.length l3) (hc3 : l3.length ≤ c3) (h : cohousingref29_Network.f k a0 l1 l2 l3 = some (r1, r2, r3)) :
  Calls Try.prog 28 #[.int .i64 a0, .slice A1 l1.length c1, .slice A2 l2.length c2, .slice A3 l3.length c3] w fun e w' => ∃ v0_ : Value, e = .returned (.tuple #[v0_, .int .i64 r2, .int .i64 r3]) ∧ Kd.R k43 43 w' w.heap.size (fun _ => True) v0_ r1 ∧ Below w.heap.size w w' := by
 have hu38 := Try.underlying38
 have HR1 := Aside0.mk hr1
 have HC1 := Aside0.mk hc1
 clear hr1 hc1
 have HR2 := Aside0.mk hr2
 have HC2 := Aside0.mk hc2
 clear hr2 hc2
 have HR3 := Aside0.mk hr3
 have HC3 := Aside0.mk hc3
 clear hr3 hc3
 have HB := Aside0.mk (Below.refl w.heap.size w)
 have H : ((cohousingref28_Bounds.f k l1 l2).bind fun bt347 => (if bt347.2 = 0 then ((cohousingref29_Leaves.f k l1).bind fun t351 => ((cohousingref29_Root.f k l1).bind fun t354 => ((cohousingref29_cost.f a0).bind fun t355 => ((cohousingref29_Homes.f k l3 (t351.length : Int)).bind fun t356 => (if t355 = true then (if t356 = true then (cohousingref29_Network.j0 k a0 l3 bt347.1 t351 t354 (decide (t354 < 0))) else (cohousingref29_Network.j0 k a0 l3 bt347.1 t351 t354 true)) else (cohousingref29_Network.j0 k a0 l3 bt347.1 t351 t354 true)))))) else (some (([] : List (S43)), 0, bt347.2)))) = some (r1, r2, r3) := h
 clear h
 replace H := Option.bind_eq_some_iff.mp H
 obtain ⟨⟨t347, t348⟩, A50, H⟩ := H
 replace H : (if t348 = 0 then ((cohousingref29_Leaves.f k l1).bind fun t351 => ((cohousingref29_Root.f k l1).bind fun t354 => ((cohousingref29_cost.f a0).bind fun t355 => ((cohousingref29_Homes.f k l3 (t351.length : Int)).bind fun t356 => (if t355 = true then (if t356 = true then (cohousingref29_Network.j0 k a0 l3 t347 t351 t354 (decide (t354 < 0))) else (cohousingref29_Network.j0 k a0 l3 t347 t351 t354 true)) else (cohousingref29_Network.j0 k a0 l3 t347 t351 t354 true)))))) else (some (([] : List (S43)), 0, t348))) = some (r1, r2, r3) := H
 have A5 := Aside0.mk A50
 clear A50
 by_cases c6 : t348 = 0
 ·rw [if_pos c6] at H
  have c6b0 : (t348 == 0) = true := beq_iff_eq.mpr c6
  have c6b1 : (t348 != 0) = false := bne_eq_false_iff_eq.mpr c6
  clear c6
  replace H := Option.bind_eq_some_iff.mp H
  obtain ⟨t351, A70, H⟩ := H
  replace H : ((cohousingref29_Root.f k l1).bind fun t354 => ((cohousingref29_cost.f a0).bind fun t355 => ((cohousingref29_Homes.f k l3 (t351.length : Int)).bind fun t356 => (if t355 = true then (if t356 = true then (cohousingref29_Network.j0 k a0 l3 t347 t351 t354 (decide (t354 < 0))) else (cohousingref29_Network.j0 k a0 l3 t347 t351 t354 true)) else (cohousingref29_Network.j0 k a0 l3 t347 t351 t354 true))))) = some (r1, r2, r3) := H
  have A7 := Aside0.mk A70
  clear A70
  replace H := Option.bind_eq_some_iff.mp H
  obtain ⟨t354, A80, H⟩ := H
  replace H : ((cohousingref29_cost.f a0).bind fun t355 => ((cohousingref29_Homes.f k l3 (t351.length : Int)).bind fun t356 => (if t355 = true then (if t356 = true then (cohousingref29_Network.j0 k a0 l3 t347 t351 t354 (decide (t354 < 0))) else (cohousingref29_Network.j0 k a0 l3 t347 t351 t354 true)) else (cohousingref29_Network.j0 k a0 l3 t347 t351 t354 true)))) = some (r1, r2, r3) := H
  have A8 := Aside0.mk A80
  clear A80
  replace H := Option.bind_eq_some_iff.mp H
  obtain ⟨t355, A90, H⟩ := H
  replace H : ((cohousingref29_Homes.f k l3 (t351.length : Int)).bind fun t356 => (if t355 = true then (if t356 = true then (cohousingref29_Network.j0 k a0 l3 t347 t351 t354 (decide (t354 < 0))) else (cohousingref29_Network.j0 k a0 l3 t347 t351 t354 true)) else (cohousingref29_Network.j0 k a0 l3 t347 t351 t354 true))) = some (r1, r2, r3) := H
  have A9 := Aside0.mk A90
  clear A90
  replace H := Option.bind_eq_some_iff.mp H
  obtain ⟨t356, A100, H⟩ := H
  replace H : (if t355 = true then (if t356 = true then (cohousingref29_Network.j0 k a0 l3 t347 t351 t354 (decide (t354 < 0))) else (cohousingref29_Network.j0 k a0 l3 t347 t351 t354 true)) else (cohousingref29_Network.j0 k a0 l3 t347 t351 t354 true)) = some (r1, r2, r3) := H
  have A10 := Aside0.mk A100
  clear A100
  have HC11 := Aside0.mk H
  clear H
  go_enter Try.func28, Try.ntmps28
  go_upto_region 8 with (first | (go_at_call 51; (with_reducible refine (cohousingref28_Bounds.calls k _ _ l1 _ _ l2 t347 t348 _ ?side1 ?side2 ?side3 ?side4 A5.out).mono ?_); (case side1 => exact cc_ (HR1.out)); (case side2 => exact HC1.out); (case side3 => exact cc_ (HR2.out)); (case side4 => exact HC2.out); rintro e w12 ⟨v349, rfl, ho0, hb⟩; have n0_ := Aside0.mk (Kd.R_lower ho0 (below_size (bb_ HB))); have n1_ := Aside0.mk (below_step (bb_ HB) hb); clear HB; have HO350 := n0_; have HB := n1_; clear n0_ n1_; (try clear hb); (try clear hb2); (try clear hk); (try clear hi); (try clear ho0)) | (go_at_call 17; (with_reducible refine (cohousingref29_Leaves.calls k _ _ l1 t351 _ ?side1 ?side2 A7.out).mono ?_); (case side1 => exact cc_ ((Kd.C_below HR1.out HB.out))); (case side2 => exact HC1.out); rintro e w13 ⟨v352, rfl, ho0, hb⟩; have n0_ := Aside0.mk (Kd.R_below (rr_ HO350) hb); have n1_ := Aside0.mk (Kd.R_lower ho0 (below_size (bb_ HB))); have n2_ := Aside0.mk (below_step (bb_ HB) hb); clear HO350; clear HB; have HO350 := n0_; have HO353 := n1_; have HB := n2_; clear n0_ n1_ n2_; (try clear hb); (try clear hb2); (try clear hk); (try clear hi); (try clear ho0)) | (go_at_call 18; (with_reducible refine (cohousingref29_Root.calls k _ _ l1 t354 _ ?side1 ?side2 A8.out).mono ?_); (case side1 => exact cc_ ((Kd.C_below HR1.out HB.out))); (case side2 => exact HC1.out); rintro e w' ⟨rfl, ⟨nd, rfl⟩⟩; (try first | exact ⟨rfl, _, World.drewN_drewN _ _ _⟩ | exact ⟨rfl, _, Eq.trans (World.drewN_drewN _ _ _) (congrArg (World.drewN _) (Nat.add_assoc _ _ _))⟩)) | (go_at_call 46; (with_reducible refine (cohousingref29_cost.calls a0 t355 _ A9.out).mono ?_); rintro e w' ⟨rfl, ⟨nd, rfl⟩⟩; (try first | exact ⟨rfl, _, World.drewN_drewN _ _ _⟩ | exact ⟨rfl, _, Eq.trans (World.drewN_drewN _ _ _) (congrArg (World.drewN _) (Nat.add_assoc _ _ _))⟩); obtain ⟨Ao14, co14, eo14⟩ := Kd.R_slice HO353.out; subst eo14) | (go_at_call 50; (with_reducible refine (cohousingref29_Homes.calls k _ _ l3 (t351.length : Int) t356 _ ?side1 ?side2 A10.out).mono ?_); (case side1 => exact cc_ ((Kd.C_below HR3.out (bb_ HB)))); (case side2 => exact HC3.out); rintro e w' ⟨rfl, ⟨nd, rfl⟩⟩; (try first | exact ⟨rfl, _, World.drewN_drewN _ _ _⟩ | exact ⟨rfl, _, Eq.trans (World.drewN_drewN _ _ _) (congrArg (World.drewN _) (Nat.add_assoc _ _ _))⟩)))
  repeat (go_quiet (first | (go_at_call 51; (with_reducible refine (cohousingref28_Bounds.calls k _ _ l1 _ _ l2 t347 t348 _ ?side1 ?side2 ?side3 ?side4 A5.out).mono ?_); (case side1 => exact cc_ (HR1.out)); (case side2 => exact HC1.out); (case side3 => exact cc_ (HR2.out)); (case side4 => exact HC2.out); rintro e w12 ⟨v349, rfl, ho0, hb⟩; have n0_ := Aside0.mk (Kd.R_lower ho0 (below_size (bb_ HB))); have n1_ := Aside0.mk (below_step (bb_ HB) hb); clear HB; have HO350 := n0_; have HB := n1_; clear n0_ n1_; (try clear hb); (try clear hb2); (try clear hk); (try clear hi); (try clear ho0)) | (go_at_call 17; (with_reducible refine (cohousingref29_Leaves.calls k _ _ l1 t351 _ ?side1 ?side2 A7.out).mono ?_); (case side1 => exact cc_ ((Kd.C_below HR1.out HB.out))); (case side2 => exact HC1.out); rintro e w13 ⟨v352, rfl, ho0, hb⟩; have n0_ := Aside0.mk (Kd.R_below (rr_ HO350) hb); have n1_ := Aside0.mk (Kd.R_lower ho0 (below_size (bb_ HB))); have n2_ := Aside0.mk (below_step (bb_ HB) hb); clear HO350; clear HB; have HO350 := n0_; have HO353 := n1_; have HB := n2_; clear n0_ n1_ n2_; (try clear hb); (try clear hb2); (try clear hk); (try clear hi); (try clear ho0)) | (go_at_call 18; (with_reducible refine (cohousingref29_Root.calls k _ _ l1 t354 _ ?side1 ?side2 A8.out).mono ?_); (case side1 => exact cc_ ((Kd.C_below HR1.out HB.out))); (case side2 => exact HC1.out); rintro e w' ⟨rfl, ⟨nd, rfl⟩⟩; (try first | exact ⟨rfl, _, World.drewN_drewN _ _ _⟩ | exact ⟨rfl, _, Eq.trans (World.drewN_drewN _ _ _) (congrArg (World.drewN _) (Nat.add_assoc _ _ _))⟩)) | (go_at_call 46; (with_reducible refine (cohousingref29_cost.calls a0 t355 _ A9.out).mono ?_); rintro e w' ⟨rfl, ⟨nd, rfl⟩⟩; (try first | exact ⟨rfl, _, World.drewN_drewN _ _ _⟩ | exact ⟨rfl, _, Eq.trans (World.drewN_drewN _ _ _) (congrArg (World.drewN _) (Nat.add_assoc _ _ _))⟩); obtain ⟨Ao14, co14, eo14⟩ := Kd.R_slice HO353.out; subst eo14) | (go_at_call 50; (with_reducible refine (cohousingref29_Homes.calls k _ _ l3 (t351.length : Int) t356 _ ?side1 ?side2 A10.out).mono ?_); (case side1 => exact cc_ ((Kd.C_below HR3.out (bb_ HB)))); (case side2 => exact HC3.out); rintro e w' ⟨rfl, ⟨nd, rfl⟩⟩; (try first | exact ⟨rfl, _, World.drewN_drewN _ _ _⟩ | exact ⟨rfl, _, Eq.trans (World.drewN_drewN _ _ _) (congrArg (World.drewN _) (Nat.add_assoc _ _ _))⟩))); go_upto_region 8 with (first | (go_at_call 51; (with_reducible refine (cohousingref28_Bounds.calls k _ _ l1 _ _ l2 t347 t348 _ ?side1 ?side2 ?side3 ?side4 A5.out).mono ?_); (case side1 => exact cc_ (HR1.out)); (case side2 => exact HC1.out); (case side3 => exact cc_ (HR2.out)); (case side4 => exact HC2.out); rintro e w12 ⟨v349, rfl, ho0, hb⟩; have n0_ := Aside0.mk (Kd.R_lower ho0 (below_size (bb_ HB))); have n1_ := Aside0.mk (below_step (bb_ HB) hb); clear HB; have HO350 := n0_; have HB := n1_; clear n0_ n1_; (try clear hb); (try clear hb2); (try clear hk); (try clear hi); (try clear ho0)) | (go_at_call 17; (with_reducible refine (cohousingref29_Leaves.calls k _ _ l1 t351 _ ?side1 ?side2 A7.out).mono ?_); (case side1 => exact cc_ ((Kd.C_below HR1.out HB.out))); (case side2 => exact HC1.out); rintro e w13 ⟨v352, rfl, ho0, hb⟩; have n0_ := Aside0.mk (Kd.R_below (rr_ HO350) hb); have n1_ := Aside0.mk (Kd.R_lower ho0 (below_size (bb_ HB))); have n2_ := Aside0.mk (below_step (bb_ HB) hb); clear HO350; clear HB; have HO350 := n0_; have HO353 := n1_; have HB := n2_; clear n0_ n1_ n2_; (try clear hb); (try clear hb2); (try clear hk); (try clear hi); (try clear ho0)) | (go_at_call 18; (with_reducible refine (cohousingref29_Root.calls k _ _ l1 t354 _ ?side1 ?side2 A8.out).mono ?_); (case side1 => exact cc_ ((Kd.C_below HR1.out HB.out))); (case side2 => exact HC1.out); rintro e w' ⟨rfl, ⟨nd, rfl⟩⟩; (try first | exact ⟨rfl, _, World.drewN_drewN _ _ _⟩ | exact ⟨rfl, _, Eq.trans (World.drewN_drewN _ _ _) (congrArg (World.drewN _) (Nat.add_assoc _ _ _))⟩)) | (go_at_call 46; (with_reducible refine (cohousingref29_cost.calls a0 t355 _ A9.out).mono ?_); rintro e w' ⟨rfl, ⟨nd, rfl⟩⟩; (try first | exact ⟨rfl, _, World.drewN_drewN _ _ _⟩ | exact ⟨rfl, _, Eq.trans (World.drewN_drewN _ _ _) (congrArg (World.drewN _) (Nat.add_assoc _ _ _))⟩); obtain ⟨Ao14, co14, eo14⟩ := Kd.R_slice HO353.out; subst eo14) | (go_at_call 50; (with_reducible refine (cohousingref29_Homes.calls k _ _ l3 (t351.length : Int) t356 _ ?side1 ?side2 A10.out).mono ?_); (case side1 => exact cc_ ((Kd.C_below HR3.out (bb_ HB)))); (case side2 => exact HC3.out); rintro e w' ⟨rfl, ⟨nd, rfl⟩⟩; (try first | exact ⟨rfl, _, World.drewN_drewN _ _ _⟩ | exact ⟨rfl, _, Eq.trans (World.drewN_drewN _ _ _) (congrArg (World.drewN _) (Nat.add_assoc _ _ _))⟩))))
  (try simp only [Act.put, sI_, s0_, sS_])
  go_cut [50] (fun v50 wc => ∃ (kq : Nat) (x50_10 : Bool), v50 = .bool x50_10 ∧ Aside0 (cohousingref29_Network.j0 kq a0 l3 t347 t351 t354 x50_10 = some (r1, r2, r3)) ∧ Aside0 (kq ≤ k) ∧ Aside0 (Kd.R k38 38 wc w.heap.size (fun _ => True) v349 t347) ∧ Aside0 (Kd.R (Kd.int .i64) 3 wc w.heap.size (fun _ => True) (.slice Ao14 t351.length co14) t351) ∧ Aside0 (Below w.heap.size w wc))
  case first =>
   have H := HC11.out
   clear HC11
   by_cases c15 : t355 = true
   ·subst c15
    have H1 : (if t356 = true then (cohousingref29_Network.j0 k a0 l3 t347 t351 t354 (decide (t354 < 0))) else (cohousingref29_Network.j0 k a0 l3 t347 t351 t354 true)) = some (r1, r2, r3) := by rw [if_pos rfl] at H; exact H
    clear H
    have H := H1
    clear H1
    by_cases c16 : t356 = true
    ·subst c16
     have H1 : (cohousingref29_Network.j0 k a0 l3 t347 t351 t354 (decide (t354 < 0))) = some (r1, r2, r3) := by rw [if_pos rfl] at H; exact H
     clear H
     have H := H1
     clear H1
     have H' := Aside0.mk H
     clear H
     go_wp2
     repeat (go_quiet (fail); try go_wp2)
     go_meet
     case rel => exact ⟨_, (decide (t354 < 0)), sd_, H', ⟨by first | omega | exact Nat.le_refl _⟩, ⟨by (with_reducible repeat (first | apply Kd.R_alloc | apply Kd.R_drewN | apply Kd.R_drew)); exact HO350.out⟩, ⟨by (with_reducible repeat (first | apply Kd.R_alloc | apply Kd.R_drewN | apply Kd.R_drew)); exact HO353.out⟩, ⟨by repeat (first | (with_reducible first | exact HB.out | apply below_alloc | apply pw_below_drewN | apply below_drew1) | exact HB.out)⟩⟩
    ·replace c16 := Bool.eq_false_iff.mpr c16
     subst c16
     have H1 : (cohousingref29_Network.j0 k a0 l3 t347 t351 t354 true) = some (r1, r2, r3) := by rw [if_neg (show ¬ (false = true) by decide)] at H; exact H
     clear H
     have H := H1
     clear H1
     have H' := Aside0.mk H
     clear H
     go_wp2
     repeat (go_quiet (fail); try go_wp2)
     go_meet
     case rel => exact ⟨_, (true), sd_, H', ⟨by first | omega | exact Nat.le_refl _⟩, ⟨by (with_reducible repeat (first | apply Kd.R_alloc | apply Kd.R_drewN | apply Kd.R_drew)); exact HO350.out⟩, ⟨by (with_reducible repeat (first | apply Kd.R_alloc | apply Kd.R_drewN | apply Kd.R_drew)); exact HO353.out⟩, ⟨by repeat (first | (with_reducible first | exact HB.out | apply below_alloc | apply pw_below_drewN | apply below_drew1) | exact HB.out)⟩⟩
   ·replace c15 := Bool.eq_false_iff.mpr c15
    subst c15
    have H1 : (cohousingref29_Network.j0 k a0 l3 t347 t351 t354 true) = some (r1, r2, r3) := by rw [if_neg (show ¬ (false = true) by decide)] at H; exact H
    clear H
    have H := H1
    clear H1
    have H' := Aside0.mk H
    clear H
    go_wp2
    repeat (go_quiet (fail); try go_wp2)
    go_meet
    case rel => exact ⟨_, (true), sd_, H', ⟨by first | omega | exact Nat.le_refl _⟩, ⟨by (with_reducible repeat (first | apply Kd.R_alloc | apply Kd.R_drewN | apply Kd.R_drew)); exact HO350.out⟩, ⟨by (with_reducible repeat (first | apply Kd.R_alloc | apply Kd.R_drewN | apply Kd.R_drew)); exact HO353.out⟩, ⟨by repeat (first | (with_reducible first | exact HB.out | apply below_alloc | apply pw_below_drewN | apply below_drew1) | exact HB.out)⟩⟩
  case rest =>
   clear HC11
   try clear c1
   try clear c2
   try clear p2
   try clear c3
   try clear c6
   try clear c6b0
   try clear c6b1
   try clear c15
   try clear c16
   obtain ⟨kq, x50_10, rfl, HA, HJ10, HO_11, HO_13, HB⟩ := hcut
   cases kq with
   | zero => exact absurd HA.out (by simp [cohousingref29_Network.j0])
   | succ kj10 =>
    have H := HA.out
    clear HA
    simp only [cohousingref29_Network.j0] at H
    by_cases c17 : x50_10 = true
    ·subst c17
     have H1 : (some (([] : List (S43)), 0, 1)) = some (r1, r2, r3) := by rw [if_pos rfl] at H; exact H
     clear H
     have H := H1
     clear H1
     simp only [Option.some.injEq, Prod.mk.injEq] at H
     obtain ⟨rfl, rfl, rfl⟩ := H
     go_wp2
     repeat (go_quiet (fail); try go_wp2)
     go_ret3
     exact ⟨_, ew_, by first | exact Kd.R_nil _ _ _ _ _ | exact Kd.N_nil _ _ _ _ _ | exact Kd.V_nil _ _ _ _ _ | exact Kd.Q_nil _ _ _ _ _ | exact Kd.S_nil _ _ _ _ _, by repeat (first | (with_reducible first | exact HB.out | apply below_alloc | apply pw_below_drewN | apply below_drew1) | exact HB.out)⟩
    ·replace c17 := Bool.eq_false_iff.mpr c17
     subst c17
     have H1 : (if 0 ≤ t354 then (if t354 < (t347.length : Int) then (if ((rd_T38 t347 t354).f0) = ((rd_T38 t347 t354).f1) then (cohousingref29_Network.j1 kj10 a0 l3 t347 t351 t354 (((rd_T38 t347 t354).f0) == 0)) else (cohousingref29_Network.j1 kj10 a0 l3 t347 t351 t354 true)) else (none)) else (none)) = some (r1, r2, r3) := by rw [if_neg (show ¬ (false = true) by decide)] at H; exact H
     clear H
     have H := H1
     clear H1
     have HC18 := Aside0.mk H
     clear H
     go_upto_region 10 with (fail)
     repeat (go_quiet (fail); go_upto_region 10 with (fail))
     go_cut [69] (fun v69 wc => ∃ (kq : Nat) (x69_17 : Bool), v69 = .bool x69_17 ∧ Aside0 (cohousingref29_Network.j1 kq a0 l3 t347 t351 t354 x69_17 = some (r1, r2, r3)) ∧ Aside0 (kq ≤ kj10) ∧ Aside0 (Kd.R k38 38 wc w.heap.size (fun _ => True) v349 t347) ∧ Aside0 (Kd.R (Kd.int .i64) 3 wc w.heap.size (fun _ => True) (.slice Ao14 t351.length co14) t351) ∧ Aside0 (Below w.heap.size w wc))
     case first =>
      have H := HC18.out
      clear HC18
      by_cases c19 : 0 ≤ t354
      ·rw [if_pos c19] at H
       have c19b0 : decide (0 ≤ t354) = true := decide_eq_true c19
       clear c19
       (first | rw [c19b0] | (simp only [i64_w, i32_w]; rw [c19b0]) | skip)
       by_cases c20 : t354 < (t347.length : Int)
       ·rw [if_pos c20] at H
        have c20b0 : decide (t354 < (t347.length : Int)) = true := decide_eq_true c20
        clear c20
        by_cases c21 : ((rd_T38 t347 t354).f0) = ((rd_T38 t347 t354).f1)
        ·rw [if_pos c21] at H
         have c21b0 : (((rd_T38 t347 t354).f0) == ((rd_T38 t347 t354).f1)) = true := beq_iff_eq.mpr c21
         have c21b1 : (((rd_T38 t347 t354).f0) != ((rd_T38 t347 t354).f1)) = false := bne_eq_false_iff_eq.mpr c21
         clear c21
         have H' := Aside0.mk H
         clear H
         obtain ⟨Ao22, co22, eo22⟩ := Kd.R_slice HO_11.out
         subst eo22
         have p357 : 0 ≤ (t354 : Int) := od_
         have q357 : t354 < (t347.length : Int) := od_
         obtain ⟨ad357, e357, hx357_0, hx357_1⟩ := at_T38 (Kd.R_reads' HO_11.out).2.2 t354 p357 q357
         cases e357
         replace p357 := eq_true p357
         replace q357 := eq_true q357
         have p358 : 0 ≤ (t354 : Int) := od_
         have q358 : t354 < (t347.length : Int) := od_
         obtain ⟨ad358, e358, hx358_0, hx358_1⟩ := at_T38 (Kd.R_reads' HO_11.out).2.2 t354 p358 q358
         obtain rfl : ad357 = ad358 := (by injection e358)
         replace p358 := eq_true p358
         replace q358 := eq_true q358
         have p359 : 0 ≤ (t354 : Int) := od_
         have q359 : t354 < (t347.length : Int) := od_
         obtain ⟨ad359, e359, hx359_0, hx359_1⟩ := at_T38 (Kd.R_reads' HO_11.out).2.2 t354 p359 q359
         obtain rfl : ad357 = ad359 := (by injection e359)
         replace p359 := eq_true p359
         replace q359 := eq_true q359
         go_wp2
         repeat (go_quiet (fail); try go_wp2)
         go_meet
         case rel => exact ⟨_, ((((rd_T38 t347 t354).f0) == 0)), sd_, H', ⟨by have := HJ10.out; first | omega | exact Nat.le_refl _⟩, ⟨by (with_reducible repeat (first | apply Kd.R_alloc | apply Kd.R_drewN | apply Kd.R_drew)); exact HO_11.out⟩, ⟨by (with_reducible repeat (first | apply Kd.R_alloc | apply Kd.R_drewN | apply Kd.R_drew)); exact HO_13.out⟩, ⟨by repeat (first | (with_reducible first | exact HB.out | apply below_alloc | apply pw_below_drewN | apply below_drew1) | exact HB.out)⟩⟩
        ·rw [if_neg c21] at H
         have c21b0 : (((rd_T38 t347 t354).f0) == ((rd_T38 t347 t354).f1)) = false := beq_eq_false_iff_ne.mpr c21
         have c21b1 : (((rd_T38 t347 t354).f0) != ((rd_T38 t347 t354).f1)) = true := bne_iff_ne.mpr c21
         have H' := Aside0.mk H
         clear H
         obtain ⟨Ao23, co23, eo23⟩ := Kd.R_slice HO_11.out
         subst eo23
         have p357 : 0 ≤ (t354 : Int) := od_
         have q357 : t354 < (t347.length : Int) := od_
         obtain ⟨ad357, e357, hx357_0, hx357_1⟩ := at_T38 (Kd.R_reads' HO_11.out).2.2 t354 p357 q357
         cases e357
         replace p357 := eq_true p357
         replace q357 := eq_true q357
         have p358 : 0 ≤ (t354 : Int) := od_
         have q358 : t354 < (t347.length : Int) := od_
         obtain ⟨ad358, e358, hx358_0, hx358_1⟩ := at_T38 (Kd.R_reads' HO_11.out).2.2 t354 p358 q358
         obtain rfl : ad357 = ad358 := (by injection e358)
         replace p358 := eq_true p358
         replace q358 := eq_true q358
         go_wp2
         repeat (go_quiet (fail); try go_wp2)
         go_meet
         case rel => exact ⟨_, (true), sd_, H', ⟨by have := HJ10.out; first | omega | exact Nat.le_refl _⟩, ⟨by (with_reducible repeat (first | apply Kd.R_alloc | apply Kd.R_drewN | apply Kd.R_drew)); exact HO_11.out⟩, ⟨by (with_reducible repeat (first | apply Kd.R_alloc | apply Kd.R_drewN | apply Kd.R_drew)); exact HO_13.out⟩, ⟨by repeat (first | (with_reducible first | exact HB.out | apply below_alloc | apply pw_below_drewN | apply below_drew1) | exact HB.out)⟩⟩
       ·rw [if_neg c20] at H
        exact absurd H (by simp)
      ·rw [if_neg c19] at H
       exact absurd H (by simp)
     case rest =>
      clear HC18
      try clear c1
      try clear c2
      try clear p2
      try clear c3
      try clear p3
      try clear q3
      try clear hx3
      try clear c6
      try clear c6b0
      try clear c6b1
      try clear c15
      try clear c16
      try clear c17
      try clear c19
      try clear c19b0
      try clear c20
      try clear c20b0
      try clear c21
      try clear c21b0
      try clear c21b1
      try clear hx357_0
      try clear hx357_1
      try clear hx358_0
      try clear hx358_1
      try clear hx359_0
      try clear hx359_1
      try clear p2
      try clear p357
      try clear p358
      try clear p359
      try clear q357
      try clear q358
      try clear q359
      obtain ⟨kq, x69_17, rfl, HA, HJ17, HO_11, HO_13, HB⟩ := hcut
      cases kq with
      | zero => exact absurd HA.out (by simp [cohousingref29_Network.j1])
      | succ kj17 =>
       have H := HA.out
       clear HA
       simp only [cohousingref29_Network.j1] at H
       by_cases c24 : x69_17 = true
       ·subst c24
        have H1 : (some (([] : List (S43)), 0, 3)) = some (r1, r2, r3) := by rw [if_pos rfl] at H; exact H
        clear H
        have H := H1
        clear H1
        simp only [Option.some.injEq, Prod.mk.injEq] at H
        obtain ⟨rfl, rfl, rfl⟩ := H
        go_wp2
        repeat (go_quiet (fail); try go_wp2)
        go_ret3
        exact ⟨_, ew_, by first | exact Kd.R_nil _ _ _ _ _ | exact Kd.N_nil _ _ _ _ _ | exact Kd.V_nil _ _ _ _ _ | exact Kd.Q_nil _ _ _ _ _ | exact Kd.S_nil _ _ _ _ _, by repeat (first | (with_reducible first | exact HB.out | apply below_alloc | apply pw_below_drewN | apply below_drew1) | exact HB.out)⟩
       ·replace c24 := Bool.eq_false_iff.mpr c24
        subst c24
        have H1 : (cohousingref29_Network.l0 kj17 a0 l3 t347 t351 t354 ([] : List (S38)) 0) = some (r1, r2, r3) := by rw [if_neg (show ¬ (false = true) by decide)] at H; exact H
        clear H
        have H := H1
        clear H1
        have H' := Aside0.mk H
        clear H
        go_wp2
        repeat (go_quiet (fail); try go_wp2)
        go_loopg [17, 18] kj17 (fun kq v17 v18 w' => ∃ (x17_3 : List (S38)) (x18_3 : Int), v18 = .int .i64 x18_3 ∧ Aside0 (cohousingref29_Network.l0 kq a0 l3 t347 t351 t354 x17_3 x18_3 = some (r1, r2, r3)) ∧ Aside0 (kq ≤ kj17) ∧ Aside0 (Kd.R k38 38 w' w.heap.size (fun k_ => some k_ ≠ (v17 : Value).ownBlock) v349 t347) ∧ Aside0 (Kd.R (Kd.int .i64) 3 w' w.heap.size (fun _ => True) (.slice Ao14 t351.length co14) t351) ∧ Aside0 (Kd.R k38 38 w' w.heap.size (fun k_ => some k_ ≠ (v349 : Value).ownBlock) v17 x17_3) ∧ Aside0 (Below w.heap.size w w'))
        case atStart => exact ⟨(([] : List (S38))), (0), sd_, H', ⟨Nat.le_refl _⟩, ⟨by (with_reducible repeat (first | apply Kd.R_alloc | apply Kd.R_drewN | apply Kd.R_drew)); exact Kd.R_mono HO_11.out (fun _ hk => (by simp [Value.ownBlock]))⟩, ⟨by (with_reducible repeat (first | apply Kd.R_alloc | apply Kd.R_drewN | apply Kd.R_drew)); exact HO_13.out⟩, ⟨by first | exact Kd.R_nil _ _ _ _ _ | exact Kd.N_nil _ _ _ _ _ | exact Kd.V_nil _ _ _ _ _ | exact Kd.Q_nil _ _ _ _ _ | exact Kd.S_nil _ _ _ _ _⟩, ⟨by repeat (first | (with_reducible first | exact HB.out | apply below_alloc | apply pw_below_drewN | apply below_drew1) | exact HB.out)⟩⟩
        case round =>
         clear H'
         try clear c1
         try clear c2
         try clear p2
         try clear c3
         try clear p3
         try clear q3
         try clear hx3
         try clear c6
         try clear c6b0
         try clear c6b1
         try clear c15
         try clear c16
         try clear c17
         try clear c19
         try clear c19b0
         try clear c20
         try clear c20b0
         try clear c21
         try clear c21b0
         try clear c21b1
         try clear c24
         try clear hx357_0
         try clear hx357_1
         try clear hx358_0
         try clear hx358_1
         try clear hx359_0
         try clear hx359_1
         try clear p2
         try clear p3
         try clear p357
         try clear p358
         try clear p359
         try clear q3
         try clear q357
         try clear q358
         try clear q359
         obtain ⟨x17_3, x18_3, rfl, HA, HK3, HO_11, HO_13, HO_17, HB⟩ := hrel
         cases gk with
         | zero => exact absurd HA.out (by simp [cohousingref29_Network.l0])
         | succ k3 =>
          have H := HA.out
          clear HA
          simp only [cohousingref29_Network.l0] at H
          by_cases c25 : x18_3 < (t351.length : Int)
          ·rw [if_pos c25] at H
           have c25b0 : decide (x18_3 < (t351.length : Int)) = true := decide_eq_true c25
           clear c25
           by_cases c26 : 0 ≤ x18_3
           ·rw [if_pos c26] at H
            have c26b0 : decide (0 ≤ x18_3) = true := decide_eq_true c26
            clear c26
            by_cases c27 : 0 ≤ (rd t351 x18_3)
            ·rw [if_pos c27] at H
             have c27b0 : decide (0 ≤ (rd t351 x18_3)) = true := decide_eq_true c27
             clear c27
             by_cases c28 : (rd t351 x18_3) < (t347.length : Int)
             ·rw [if_pos c28] at H
              have c28b0 : decide ((rd t351 x18_3) < (t347.length : Int)) = true := decide_eq_true c28
              clear c28
              by_cases c29 : x17_3.length < 8796093022208
              ·rw [if_pos c29] at H
               have LMc29 := Aside0.mk c29
               clear c29
               obtain ⟨y362, hy362⟩ : ∃ y_ : List (S38), y_ = (x17_3 ++ [(⟨(rd_T38 t347 (rd t351 x18_3)).f0, (rd_T38 t347 (rd t351 x18_3)).f1⟩ : S38)]) := ⟨_, rfl⟩
               replace H : (cohousingref29_Network.l0 k3 a0 l3 t347 t351 t354 y362 (wrap64 (x18_3 + 1))) = some (r1, r2, r3) := by first | (rw [hy362]; with_reducible exact H) | (have H2_ := (Option.bind_some _ _).symm.trans H; rw [hy362]; with_reducible exact H2_) | (have H2_ := (Option.bind_some _ _).symm.trans H; with_reducible exact H2_) | with_reducible exact H | (rw [hy362]; exact H) | exact H
               have Ny362 := Aside0.mk hy362
               clear hy362
               have H' := Aside0.mk H
               clear H
               have p360 : 0 ≤ (x18_3 : Int) := od_
               have q360 : x18_3 < (t351.length : Int) := od_
               obtain ⟨ad360, e360, hx360_0⟩ := Kd.at_int (Kd.R_reads' HO_13.out).2.2 x18_3 p360 q360
               cases e360
               replace p360 := eq_true p360
               replace q360 := eq_true q360
               obtain ⟨Ao30, co30, eo30⟩ := Kd.R_slice HO_11.out
               subst eo30
               have p361 : 0 ≤ ((rd t351 x18_3) : Int) := od_
               have q361 : (rd t351 x18_3) < (t347.length : Int) := od_
               obtain ⟨ad361, e361, hx361_0, hx361_1⟩ := at_T38 (Kd.R_reads' HO_11.out).2.2 (rd t351 x18_3) p361 q361
               cases e361
               replace p361 := eq_true p361
               replace q361 := eq_true q361
               go_wp2_with (first | ((with_reducible refine gate_builtin (b := .append) (xs := #[.tmp 76, .tmp 84]) rfl ?_); at_builtin; refine Kd.R_append k38 (w0 := w) w.heap.size rfl (.tmp 76) (.tmp 84) 23 38 (.agg #[(.int .i64 0), (.int .i64 0)]) 16 rfl Try.underlying23 info38 rfl (by decide) (by omega) u17 x17_3 (⟨(rd_T38 t347 (rd t351 x18_3)).f0, (rd_T38 t347 (rd t351 x18_3)).f1⟩ : S38) [.int .i64 ((rd_T38 t347 (rd t351 x18_3)).f0), .int .i64 ((rd_T38 t347 (rd t351 x18_3)).f1)] (fun k_ => some k_ ≠ (.slice (some ad361) t347.length co30 : Value).ownBlock) (fun _ => False) rfl rfl ?aP (fun _ hk => hk.elim) ?aF ?aO ?aB ?aS ?aL ?_; (case aP => exact k38_mkM _ _ _ (⟨(rd_T38 t347 (rd t351 x18_3)).f0, (rd_T38 t347 (rd t351 x18_3)).f1⟩ : S38)); (case aB => exact (bb_ HB)); (case aF => exact (fun k_ hk => Kd.fresh' (Kd.R_lt (rr_ HO_11)) k_ hk)); (case aO => exact (rr_ HO_17)); (case aS => exact (below_size (bb_ HB))); (case aL => have := LMc29.out; omega); intro v363 w31 ho hb hg hat; rw [← Ny362.out] at ho; have n0_ := Aside0.mk (Kd.R_after (ok := (fun _ => True)) (by (with_reducible repeat (first | apply Kd.R_alloc | apply Kd.R_drewN | apply Kd.R_drew)); exact Kd.R_mono HO_11.out (fun _ hk => ⟨trivial, hk⟩)) hg hat); have n1_ := Aside0.mk (Kd.R_over' (rr_ HO_13) (Kd.R_typed (rr_ HO_17)) (by decide) hg); have n2_ := Aside0.mk (hb); have n3_ := Aside0.mk (ho); clear HO_11; clear HO_13; clear HB; clear HO_17; have HO_11 := n0_; have HO_13 := n1_; have HB := n2_; have HO364 := n3_; clear n0_ n1_ n2_ n3_; clear ho hb hg hat))
               repeat (go_quiet (first | ((with_reducible refine gate_builtin (b := .append) (xs := #[.tmp 76, .tmp 84]) rfl ?_); at_builtin; refine Kd.R_append k38 (w0 := w) w.heap.size rfl (.tmp 76) (.tmp 84) 23 38 (.agg #[(.int .i64 0), (.int .i64 0)]) 16 rfl Try.underlying23 info38 rfl (by decide) (by omega) u17 x17_3 (⟨(rd_T38 t347 (rd t351 x18_3)).f0, (rd_T38 t347 (rd t351 x18_3)).f1⟩ : S38) [.int .i64 ((rd_T38 t347 (rd t351 x18_3)).f0), .int .i64 ((rd_T38 t347 (rd t351 x18_3)).f1)] (fun k_ => some k_ ≠ (.slice (some ad361) t347.length co30 : Value).ownBlock) (fun _ => False) rfl rfl ?aP (fun _ hk => hk.elim) ?aF ?aO ?aB ?aS ?aL ?_; (case aP => exact k38_mkM _ _ _ (⟨(rd_T38 t347 (rd t351 x18_3)).f0, (rd_T38 t347 (rd t351 x18_3)).f1⟩ : S38)); (case aB => exact (bb_ HB)); (case aF => exact (fun k_ hk => Kd.fresh' (Kd.R_lt (rr_ HO_11)) k_ hk)); (case aO => exact (rr_ HO_17)); (case aS => exact (below_size (bb_ HB))); (case aL => have := LMc29.out; omega); intro v363 w31 ho hb hg hat; rw [← Ny362.out] at ho; have n0_ := Aside0.mk (Kd.R_after (ok := (fun _ => True)) (by (with_reducible repeat (first | apply Kd.R_alloc | apply Kd.R_drewN | apply Kd.R_drew)); exact Kd.R_mono HO_11.out (fun _ hk => ⟨trivial, hk⟩)) hg hat); have n1_ := Aside0.mk (Kd.R_over' (rr_ HO_13) (Kd.R_typed (rr_ HO_17)) (by decide) hg); have n2_ := Aside0.mk (hb); have n3_ := Aside0.mk (ho); clear HO_11; clear HO_13; clear HB; clear HO_17; have HO_11 := n0_; have HO_13 := n1_; have HB := n2_; have HO364 := n3_; clear n0_ n1_ n2_ n3_; clear ho hb hg hat)); try go_wp2_with (first | ((with_reducible refine gate_builtin (b := .append) (xs := #[.tmp 76, .tmp 84]) rfl ?_); at_builtin; refine Kd.R_append k38 (w0 := w) w.heap.size rfl (.tmp 76) (.tmp 84) 23 38 (.agg #[(.int .i64 0), (.int .i64 0)]) 16 rfl Try.underlying23 info38 rfl (by decide) (by omega) u17 x17_3 (⟨(rd_T38 t347 (rd t351 x18_3)).f0, (rd_T38 t347 (rd t351 x18_3)).f1⟩ : S38) [.int .i64 ((rd_T38 t347 (rd t351 x18_3)).f0), .int .i64 ((rd_T38 t347 (rd t351 x18_3)).f1)] (fun k_ => some k_ ≠ (.slice (some ad361) t347.length co30 : Value).ownBlock) (fun _ => False) rfl rfl ?aP (fun _ hk => hk.elim) ?aF ?aO ?aB ?aS ?aL ?_; (case aP => exact k38_mkM _ _ _ (⟨(rd_T38 t347 (rd t351 x18_3)).f0, (rd_T38 t347 (rd t351 x18_3)).f1⟩ : S38)); (case aB => exact (bb_ HB)); (case aF => exact (fun k_ hk => Kd.fresh' (Kd.R_lt (rr_ HO_11)) k_ hk)); (case aO => exact (rr_ HO_17)); (case aS => exact (below_size (bb_ HB))); (case aL => have := LMc29.out; omega); intro v363 w31 ho hb hg hat; rw [← Ny362.out] at ho; have n0_ := Aside0.mk (Kd.R_after (ok := (fun _ => True)) (by (with_reducible repeat (first | apply Kd.R_alloc | apply Kd.R_drewN | apply Kd.R_drew)); exact Kd.R_mono HO_11.out (fun _ hk => ⟨trivial, hk⟩)) hg hat); have n1_ := Aside0.mk (Kd.R_over' (rr_ HO_13) (Kd.R_typed (rr_ HO_17)) (by decide) hg); have n2_ := Aside0.mk (hb); have n3_ := Aside0.mk (ho); clear HO_11; clear HO_13; clear HB; clear HO_17; have HO_11 := n0_; have HO_13 := n1_; have HB := n2_; have HO364 := n3_; clear n0_ n1_ n2_ n3_; clear ho hb hg hat)))
               go_roundg k3
               case measure => have := HJ10.out; have := HJ17.out; have := HK3.out; omega
               case rel => exact ⟨(y362), (wrap64 (x18_3 + 1)), sd_, H', ⟨by have := HJ10.out; have := HJ17.out; have := HK3.out; omega⟩, ⟨by (with_reducible repeat (first | apply Kd.R_alloc | apply Kd.R_drewN | apply Kd.R_drew)); exact Kd.R_mono HO_11.out (fun _ hk => hk.2)⟩, ⟨by (with_reducible repeat (first | apply Kd.R_alloc | apply Kd.R_drewN | apply Kd.R_drew)); exact HO_13.out⟩, ⟨by (with_reducible repeat (first | apply Kd.R_alloc | apply Kd.R_drewN | apply Kd.R_drew)); exact HO364.out⟩, ⟨by repeat (first | (with_reducible first | exact HB.out | apply below_alloc | apply pw_below_drewN | apply below_drew1) | exact HB.out)⟩⟩
              ·rw [if_neg c29] at H
               exact absurd H (by simp)
             ·rw [if_neg c28] at H
              exact absurd H (by simp)
            ·rw [if_neg c27] at H
             exact absurd H (by simp)
           ·rw [if_neg c26] at H
            exact absurd H (by simp)
          ·rw [if_neg c25] at H
           have c25b0 : decide (x18_3 < (t351.length : Int)) = false := decide_eq_false c25
           clear c25
           by_cases c32 : 0 ≤ t354
           ·rw [if_pos c32] at H
            have c32b0 : decide (0 ≤ t354) = true := decide_eq_true c32
            clear c32
            by_cases c33 : t354 < (t347.length : Int)
            ·rw [if_pos c33] at H
             have c33b0 : decide (t354 < (t347.length : Int)) = true := decide_eq_true c33
             clear c33
             replace H := Option.bind_eq_some_iff.mp H
             obtain ⟨⟨t366, t367, t368⟩, A340, H⟩ := H
             replace H : (some (t366, t367, t368)) = some (r1, r2, r3) := H
             have A34 := Aside0.mk A340
             clear A340
             simp only [Option.some.injEq, Prod.mk.injEq] at H
             obtain ⟨rfl, rfl, rfl⟩ := H
             obtain ⟨Ao35, co35, eo35⟩ := Kd.R_slice HO_11.out
             subst eo35
             have p365 : 0 ≤ (t354 : Int) := od_
             have q365 : t354 < (t347.length : Int) := od_
             obtain ⟨ad365, e365, hx365_0, hx365_1⟩ := at_T38 (Kd.R_reads' HO_11.out).2.2 t354 p365 q365
             cases e365
             replace p365 := eq_true p365
             replace q365 := eq_true q365
             obtain ⟨Ao36, co36, eo36⟩ := Kd.R_slice HO_17.out
             subst eo36
             go_wp2_with (first | (go_at_call 26; (with_reducible refine (cohousingref29_Share.calls k3 a0 ((rd_T38 t347 t354).f0) _ _ l3 _ _ x17_3 t366 t367 t368 _ ?side1 ?side2 ?side3 ?side4 A34.out).mono ?_); (case side1 => exact cc_ ((Kd.C_below HR3.out HB.out))); (case side2 => exact HC3.out); (case side3 => exact cc_ ((Kd.R_reads' HO_17.out).2.2)); (case side4 => exact (Kd.R_reads' HO_17.out).2.1); rintro e w37 ⟨v369, rfl, ho0, hb⟩; have n0_ := Aside0.mk (Kd.R_below (rr_ HO_11) hb); have n1_ := Aside0.mk (Kd.R_below (rr_ HO_13) hb); have n2_ := Aside0.mk (Kd.R_below (rr_ HO_17) hb); have n3_ := Aside0.mk (Kd.R_lower ho0 (below_size (bb_ HB))); have n4_ := Aside0.mk (below_step (bb_ HB) hb); clear HO_11; clear HO_13; clear HO_17; clear HB; have HO_11 := n0_; have HO_13 := n1_; have HO_17 := n2_; have HO370 := n3_; have HB := n4_; clear n0_ n1_ n2_ n3_ n4_; (try clear hb); (try clear hb2); (try clear hk); (try clear hi); (try clear ho0)))
             repeat (go_quiet (first | (go_at_call 26; (with_reducible refine (cohousingref29_Share.calls k3 a0 ((rd_T38 t347 t354).f0) _ _ l3 _ _ x17_3 t366 t367 t368 _ ?side1 ?side2 ?side3 ?side4 A34.out).mono ?_); (case side1 => exact cc_ ((Kd.C_below HR3.out HB.out))); (case side2 => exact HC3.out); (case side3 => exact cc_ ((Kd.R_reads' HO_17.out).2.2)); (case side4 => exact (Kd.R_reads' HO_17.out).2.1); rintro e w37 ⟨v369, rfl, ho0, hb⟩; have n0_ := Aside0.mk (Kd.R_below (rr_ HO_11) hb); have n1_ := Aside0.mk (Kd.R_below (rr_ HO_13) hb); have n2_ := Aside0.mk (Kd.R_below (rr_ HO_17) hb); have n3_ := Aside0.mk (Kd.R_lower ho0 (below_size (bb_ HB))); have n4_ := Aside0.mk (below_step (bb_ HB) hb); clear HO_11; clear HO_13; clear HO_17; clear HB; have HO_11 := n0_; have HO_13 := n1_; have HO_17 := n2_; have HO370 := n3_; have HB := n4_; clear n0_ n1_ n2_ n3_ n4_; (try clear hb); (try clear hb2); (try clear hk); (try clear hi); (try clear ho0))); try go_wp2_with (first | (go_at_call 26; (with_reducible refine (cohousingref29_Share.calls k3 a0 ((rd_T38 t347 t354).f0) _ _ l3 _ _ x17_3 t366 t367 t368 _ ?side1 ?side2 ?side3 ?side4 A34.out).mono ?_); (case side1 => exact cc_ ((Kd.C_below HR3.out HB.out))); (case side2 => exact HC3.out); (case side3 => exact cc_ ((Kd.R_reads' HO_17.out).2.2)); (case side4 => exact (Kd.R_reads' HO_17.out).2.1); rintro e w37 ⟨v369, rfl, ho0, hb⟩; have n0_ := Aside0.mk (Kd.R_below (rr_ HO_11) hb); have n1_ := Aside0.mk (Kd.R_below (rr_ HO_13) hb); have n2_ := Aside0.mk (Kd.R_below (rr_ HO_17) hb); have n3_ := Aside0.mk (Kd.R_lower ho0 (below_size (bb_ HB))); have n4_ := Aside0.mk (below_step (bb_ HB) hb); clear HO_11; clear HO_13; clear HO_17; clear HB; have HO_11 := n0_; have HO_13 := n1_; have HO_17 := n2_; have HO370 := n3_; have HB := n4_; clear n0_ n1_ n2_ n3_ n4_; (try clear hb); (try clear hb2); (try clear hk); (try clear hi); (try clear ho0))))
             go_ret3
             exact ⟨_, ew_, by (with_reducible repeat (first | apply Kd.R_alloc | apply Kd.R_drewN | apply Kd.R_drew)); exact HO370.out, by repeat (first | (with_reducible first | exact HB.out | apply below_alloc | apply pw_below_drewN | apply below_drew1) | exact HB.out)⟩
            ·rw [if_neg c33] at H
             exact absurd H (by simp)
           ·rw [if_neg c32] at H
            exact absurd H (by simp)
 ·rw [if_neg c6] at H
  have c6b0 : (t348 == 0) = false := beq_eq_false_iff_ne.mpr c6
  have c6b1 : (t348 != 0) = true := bne_iff_ne.mpr c6
  simp only [Option.some.injEq, Prod.mk.injEq] at H
  obtain ⟨rfl, rfl, rfl⟩ := H
  go_enter Try.func28, Try.ntmps28
  go_wp2_with (first | (go_at_call 51; (with_reducible refine (cohousingref28_Bounds.calls k _ _ l1 _ _ l2 t347 t348 _ ?side1 ?side2 ?side3 ?side4 A5.out).mono ?_); (case side1 => exact cc_ (HR1.out)); (case side2 => exact HC1.out); (case side3 => exact cc_ (HR2.out)); (case side4 => exact HC2.out); rintro e w38 ⟨v349, rfl, ho0, hb⟩; have n0_ := Aside0.mk (Kd.R_lower ho0 (below_size (bb_ HB))); have n1_ := Aside0.mk (below_step (bb_ HB) hb); clear HB; have HO350 := n0_; have HB := n1_; clear n0_ n1_; (try clear hb); (try clear hb2); (try clear hk); (try clear hi); (try clear ho0)))
  repeat (go_quiet (first | (go_at_call 51; (with_reducible refine (cohousingref28_Bounds.calls k _ _ l1 _ _ l2 t347 t348 _ ?side1 ?side2 ?side3 ?side4 A5.out).mono ?_); (case side1 => exact cc_ (HR1.out)); (case side2 => exact HC1.out); (case side3 => exact cc_ (HR2.out)); (case side4 => exact HC2.out); rintro e w38 ⟨v349, rfl, ho0, hb⟩; have n0_ := Aside0.mk (Kd.R_lower ho0 (below_size (bb_ HB))); have n1_ := Aside0.mk (below_step (bb_ HB) hb); clear HB; have HO350 := n0_; have HB := n1_; clear n0_ n1_; (try clear hb); (try clear hb2); (try clear hk); (try clear hi); (try clear ho0))); try go_wp2_with (first | (go_at_call 51; (with_reducible refine (cohousingref28_Bounds.calls k _ _ l1 _ _ l2 t347 t348 _ ?side1 ?side2 ?side3 ?side4 A5.out).mono ?_); (case side1 => exact cc_ (HR1.out)); (case side2 => exact HC1.out); (case side3 => exact cc_ (HR2.out)); (case side4 => exact HC2.out); rintro e w38 ⟨v349, rfl, ho0, hb⟩; have n0_ := Aside0.mk (Kd.R_lower ho0 (below_size (bb_ HB))); have n1_ := Aside0.mk (below_step (bb_ HB) hb); clear HB; have HO350 := n0_; have HB := n1_; clear n0_ n1_; (try clear hb); (try clear hb2); (try clear hk); (try clear hi); (try clear ho0))))
  go_ret3
  exact ⟨_, ew_, by first | exact Kd.R_nil _ _ _ _ _ | exact Kd.N_nil _ _ _ _ _ | exact Kd.V_nil _ _ _ _ _ | exact Kd.Q_nil _ _ _ _ _ | exact Kd.S_nil _ _ _ _ _, by repeat (first | (with_reducible first | exact HB.out | apply below_alloc | apply pw_below_drewN | apply below_drew1) | exact HB.out)⟩
end
end Go.Proofs.Ytbgchacafglcpaa.P
end
section
namespace Go.Proofs.FlowTree
def sm (f : Nat → Int) (ks : List Nat) : Int := (ks.map f).foldl (· + ·) 0
theorem foldl_add (l : List Int) : ∀ a : Int, l.foldl (· + ·) a = a + l.foldl (· + ·) 0 := by
 induction l with
 | nil => intro a; simp
 | cons x l ih => intro a; rw [List.foldl_cons, List.foldl_cons, ih (a + x), ih (0 + x)]; omega
theorem sm_nil (f : Nat → Int) : sm f [] = 0 := rfl
theorem sm_cons (f : Nat → Int) (k : Nat) (ks : List Nat) : sm f (k :: ks) = f k + sm f ks := by
 unfold sm
 rw [List.map_cons, List.foldl_cons, foldl_add]; omega
theorem sm_congr {f g : Nat → Int} {ks : List Nat} (h : ∀ k ∈ ks, f k = g k) : sm f ks = sm g ks := by
 induction ks with
 | nil => rfl
 | cons k ks ih => rw [sm_cons, sm_cons, h k (by simp), ih (fun j hj => h j (by simp [hj]))]
theorem sm_le {f g : Nat → Int} {ks : List Nat} (h : ∀ k ∈ ks, f k ≤ g k) : sm f ks ≤ sm g ks := by
 induction ks with
 | nil => exact Int.le_refl _
 | cons k ks ih => rw [sm_cons, sm_cons]; have := h k (by simp); have := ih (fun j hj => h j (by simp [hj])); omega
theorem sm_bound {f : Nat → Int} {ks : List Nat} {a b : Int} (h : ∀ k ∈ ks, a ≤ f k ∧ f k ≤ b) : a * ks.length ≤ sm f ks ∧ sm f ks ≤ b * ks.length := by
 induction ks with
 | nil => simp [sm_nil]
 | cons k ks ih =>
  rw [sm_cons]
  have h1 := h k (by simp)
  have h2 := ih (fun j hj => h j (by simp [hj]))
  simp only [List.length_cons, Int.natCast_add, Int.natCast_one, Int.mul_add, Int.mul_one]
  omega
theorem sm_nonneg {f : Nat → Int} {ks : List Nat} (h : ∀ k ∈ ks, 0 ≤ f k) : 0 ≤ sm f ks := by
 induction ks with
 | nil => exact Int.le_refl _
 | cons k ks ih => rw [sm_cons]; have := h k (by simp); have := ih (fun j hj => h j (by simp [hj])); omega
theorem sm_append (f : Nat → Int) (a b : List Nat) : sm f (a ++ b) = sm f a + sm f b := by
 induction a with
 | nil => simp [sm_nil]
 | cons x a ih => rw [List.cons_append, sm_cons, sm_cons, ih]; omega
theorem sm_split (f : Nat → Int) {ks : List Nat} {k : Nat} (hk : k ∈ ks) : ∃ a b, ks = a ++ k :: b ∧ sm f ks = f k + sm f (a ++ b) := by
 obtain ⟨a, b, rfl⟩ := List.append_of_mem hk
 exact ⟨a, b, rfl, by rw [sm_append, sm_append, sm_cons]; omega⟩
theorem fill (lo hi : Nat → Int) (ks : List Nat) (hn : ks.Nodup) (h : ∀ k ∈ ks, lo k ≤ hi k) : ∀ s, sm lo ks ≤ s → s ≤ sm hi ks → ∃ c : Nat → Int, (∀ k ∈ ks, lo k ≤ c k ∧ c k ≤ hi k) ∧ sm c ks = s := by
 induction ks with
 | nil => intro s h1 h2; exact ⟨fun _ => 0, (fun k hk => by cases hk), (by rw [sm_nil] at *; omega)⟩
 | cons k ks ih =>
  intro s h1 h2
  rw [sm_cons] at h1 h2
  have hk := h k (by simp)
  have hle := sm_le (fun j hj => h j (List.mem_cons_of_mem _ hj))
  rw [List.nodup_cons] at hn
  have key : ∃ v, lo k ≤ v ∧ v ≤ hi k ∧ sm lo ks ≤ s - v ∧ s - v ≤ sm hi ks := by
   by_cases hc : s - lo k ≤ sm hi ks
   ·exact ⟨lo k, by omega, by omega, by omega, by omega⟩
   ·exact ⟨s - sm hi ks, by omega, by omega, by omega, by omega⟩
  obtain ⟨v, hv1, hv2, hv3, hv4⟩ := key
  obtain ⟨c, hc, hs⟩ := ih hn.2 (fun j hj => h j (List.mem_cons_of_mem _ hj)) (s - v) hv3 hv4
  refine ⟨fun j => if j = k then v else c j, ?_, ?_⟩
  ·intro j hj
   rcases List.mem_cons.1 hj with rfl | hj
   ·simp only [if_true]; exact ⟨hv1, hv2⟩
   ·have : j ≠ k := fun e => hn.1 (e ▸ hj)
    simp only [this, if_false]; exact hc j hj
  ·rw [sm_cons]
   simp only [if_true]
   rw [sm_congr (g := c) (fun j hj => by have : j ≠ k := fun e => hn.1 (e ▸ hj); simp [this]), hs]; omega
structure Net where
 n : Nat
 kid : Nat → List Nat
 loss : Nat → Int
structure Net.Ok (T : Net) : Prop where
 lt : ∀ i k, k ∈ T.kid i → i < k ∧ k < T.n
 nodup : ∀ i, (T.kid i).Nodup
 one : ∀ i j k, k ∈ T.kid i → k ∈ T.kid j → i = j
 loss0 : ∀ i, i < T.n → 0 ≤ T.loss i
def Net.eq (T : Net) (x : Nat → Int) (i : Nat) : Prop := T.kid i ≠ [] → 0 ≤ x i - sm x (T.kid i) ∧ x i - sm x (T.kid i) ≤ T.loss i
def Sol (T : Net) (lo hi : Nat → Int) (x : Nat → Int) : Prop := (∀ i, i < T.n → lo i ≤ x i ∧ x i ≤ hi i) ∧ ∀ i, i < T.n → T.eq x i
theorem eq_congr {T : Net} {x y : Nat → Int} {i : Nat} (h0 : x i = y i) (h : ∀ k ∈ T.kid i, x k = y k) (hx : T.eq x i) : T.eq y i := by
 intro hk
 have := hx hk
 rw [sm_congr h, h0] at this
 exact this
theorem extend (T : Net) (hT : T.Ok) (lo hi : Nat → Int) (hne : ∀ i, i < T.n → lo i ≤ hi i) (hup : ∀ i, i < T.n → T.kid i ≠ [] → sm lo (T.kid i) ≤ lo i ∧ hi i ≤ sm hi (T.kid i) + T.loss i) :
  ∀ (d m : Nat), m + d = T.n → ∀ x : Nat → Int, (∀ i, i < T.n → lo i ≤ x i ∧ x i ≤ hi i) → (∀ i, i < m → T.eq x i) →
   ∃ y, Sol T lo hi y ∧ ∀ j, (∀ i, m ≤ i → j ∉ T.kid i) → y j = x j := by
 intro d
 induction d with
 | zero =>
  intro m hm x hx he
  exact ⟨x, ⟨hx, fun i hi => he i (by omega)⟩, fun _ _ => rfl⟩
 | succ d ih =>
  intro m hm x hx he
  have hmn : m < T.n := by omega
  have key : ∃ x', (∀ i, i < T.n → lo i ≤ x' i ∧ x' i ≤ hi i) ∧ (∀ i, i < m + 1 → T.eq x' i) ∧ ∀ j, j ∉ T.kid m → x' j = x j := by
   by_cases hk : T.kid m = []
   ·refine ⟨x, hx, fun i hi => ?_, fun _ _ => rfl⟩
    by_cases h : i < m
    ·exact he i h
    ·rw [show i = m by omega]; intro h'; exact absurd hk h'
   ·have h1 := hup m hmn hk
    have h2 := hx m hmn
    have hle : sm lo (T.kid m) ≤ sm hi (T.kid m) := sm_le (fun k hk' => hne k (hT.lt m k hk').2)
    have hl0 := hT.loss0 m hmn
    have hs : ∃ s, sm lo (T.kid m) ≤ s ∧ s ≤ sm hi (T.kid m) ∧ 0 ≤ x m - s ∧ x m - s ≤ T.loss m := by
     by_cases hc : x m ≤ sm hi (T.kid m)
     ·exact ⟨x m, by omega, by omega, by omega, by omega⟩
     ·exact ⟨sm hi (T.kid m), by omega, by omega, by omega, by omega⟩
    obtain ⟨s, hs1, hs2, hs3, hs4⟩ := hs
    obtain ⟨c, hc, hcs⟩ := fill lo hi (T.kid m) (hT.nodup m) (fun k hk' => hne k (hT.lt m k hk').2) s hs1 hs2
    refine ⟨fun j => if j ∈ T.kid m then c j else x j, ?_, ?_, ?_⟩
    ·intro i hi'
     by_cases h : i ∈ T.kid m
     ·simp only [h, if_true]; exact hc i h
     ·simp only [h, if_false]; exact hx i hi'
    ·intro i hi'
     by_cases h : i < m
     ·refine eq_congr (x := x) ?_ ?_ (he i h)
      ·have : i ∉ T.kid m := fun hm' => by have := (hT.lt m i hm').1; omega
       simp [this]
      ·intro k hk'
       have : k ∉ T.kid m := fun hm' => by have := hT.one i m k hk' hm'; omega
       simp [this]
     ·have e : i = m := by omega
      subst e
      intro _
      have h3 : i ∉ T.kid i := fun hm' => by have := (hT.lt i i hm').1; omega
      rw [sm_congr (g := c) (fun k hk' => by simp [hk'])]
      simp only [h3, if_false]
      rw [hcs]
      exact ⟨hs3, hs4⟩
    ·intro j hj
     simp [hj]
  obtain ⟨x', hx', he', hk'⟩ := key
  obtain ⟨y, hy, hyx⟩ := ih (m + 1) (by omega) x' hx' he'
  refine ⟨y, hy, fun j hj => ?_⟩
  rw [hyx j (fun i hi' => hj i (by omega)), hk' j (hj m (Nat.le_refl _))]
theorem exact (T : Net) (hT : T.Ok) (lo hi dl dh : Nat → Int) (hne : ∀ i, i < T.n → lo i ≤ hi i)
  (hup : ∀ i, i < T.n → T.kid i ≠ [] → sm lo (T.kid i) ≤ lo i ∧ hi i ≤ sm hi (T.kid i) + T.loss i)
  (hsub : ∀ i, i < T.n → lo i ≤ dl i ∧ dl i ≤ dh i ∧ dh i ≤ hi i)
  (hdn : ∀ i, i < T.n → ∀ k ∈ T.kid i, dl i - T.loss i - (sm hi (T.kid i) - hi k) ≤ dl k ∧ dh k ≤ dh i - (sm lo (T.kid i) - lo k)) :
  ∀ (k : Nat), k < T.n → ∀ v, dl k ≤ v → v ≤ dh k → ∃ x, Sol T lo hi x ∧ x k = v := by
 intro k
 induction k using Nat.strongRecOn with
 | ind k ih =>
  intro hk v hv1 hv2
  by_cases hp : ∃ i, i < T.n ∧ k ∈ T.kid i
  ·obtain ⟨i, hi', hki⟩ := hp
   have hik := (hT.lt i k hki).1
   have hne' : T.kid i ≠ [] := fun h => by rw [h] at hki; cases hki
   have h1 := hdn i hi' k hki
   have h2 := hsub i hi'
   have h3 := hup i hi' hne'
   have h4 := hsub k hk
   have hl0 := hT.loss0 i hi'
   obtain ⟨a, b, hab, hlo⟩ := sm_split lo hki
   have hhi : sm hi (T.kid i) = hi k + sm hi (a ++ b) := by rw [hab, sm_append, sm_append, sm_cons]; omega
   have hnd : (a ++ b).Nodup ∧ k ∉ a ++ b := by
    have := hT.nodup i
    rw [hab] at this
    rw [List.nodup_append] at this
    obtain ⟨ha, hb, hd⟩ := this
    rw [List.nodup_cons] at hb
    refine ⟨List.nodup_append.2 ⟨ha, hb.2, fun x hx y hy => hd x hx y (List.mem_cons_of_mem _ hy)⟩, fun h => ?_⟩
    rcases List.mem_append.1 h with h | h
    ·exact hd k h k (by simp) rfl
    ·exact hb.1 h
   have hmem : ∀ j ∈ a ++ b, j ∈ T.kid i := by
    intro j hj
    rw [hab]
    rcases List.mem_append.1 hj with h | h
    ·exact List.mem_append.2 (.inl h)
    ·exact List.mem_append.2 (.inr (List.mem_cons_of_mem _ h))
   have hle : sm lo (a ++ b) ≤ sm hi (a ++ b) := sm_le (fun j hj => hne j (hT.lt i j (hmem j hj)).2)
   have hw : ∃ w s, dl i ≤ w ∧ w ≤ dh i ∧ sm lo (a ++ b) ≤ s ∧ s ≤ sm hi (a ++ b) ∧ 0 ≤ w - (v + s) ∧ w - (v + s) ≤ T.loss i := by
    by_cases hc : dl i ≤ sm lo (a ++ b) + v
    ·exact ⟨sm lo (a ++ b) + v, sm lo (a ++ b), by omega, by omega, by omega, by omega, by omega, by omega⟩
    ·by_cases hc2 : dl i - v ≤ sm hi (a ++ b)
     ·exact ⟨dl i, dl i - v, by omega, by omega, by omega, by omega, by omega, by omega⟩
     ·exact ⟨dl i, sm hi (a ++ b), by omega, by omega, by omega, by omega, by omega, by omega⟩
   obtain ⟨w, s, hw1, hw2, hs1, hs2, hs3, hs4⟩ := hw
   obtain ⟨y, hy, hyi⟩ := ih i hik hi' w hw1 hw2
   obtain ⟨c, hc, hcs⟩ := fill lo hi (a ++ b) hnd.1 (fun j hj => hne j (hT.lt i j (hmem j hj)).2) s hs1 hs2
   let c' : Nat → Int := fun j => if j = k then v else c j
   have hc' : ∀ j ∈ T.kid i, lo j ≤ c' j ∧ c' j ≤ hi j := by
    intro j hj
    by_cases h : j = k
    ·subst h; simp only [c', if_true]; omega
    ·simp only [c', h, if_false]
     refine hc j ?_
     rw [hab] at hj
     rcases List.mem_append.1 hj with h' | h'
     ·exact List.mem_append.2 (.inl h')
     ·rcases List.mem_cons.1 h' with h' | h'
      ·exact absurd h' h
      ·exact List.mem_append.2 (.inr h')
   have hcs' : sm c' (T.kid i) = v + s := by
    have : sm c' (T.kid i) = c' k + sm c' (a ++ b) := by rw [hab, sm_append, sm_append, sm_cons]; omega
    rw [this, sm_congr (f := c') (g := c) (fun j hj => by have : j ≠ k := fun e => hnd.2 (e ▸ hj); simp [c', this]), hcs]
    simp [c']
   obtain ⟨z, hz, hzx⟩ := extend T hT lo hi hne hup (T.n - (i + 1)) (i + 1) (by omega) (fun j => if j ∈ T.kid i then c' j else y j)
    (fun j hj => by
     by_cases h : j ∈ T.kid i
     ·simp only [h, if_true]; exact hc' j h
     ·simp only [h, if_false]; exact hy.1 j hj)
    (fun j hj => by
     by_cases h : j < i
     ·refine eq_congr (x := y) ?_ ?_ (hy.2 j (by omega))
      ·have : j ∉ T.kid i := fun hm' => by have := (hT.lt i j hm').1; omega
       simp [this]
      ·intro q hq
       have : q ∉ T.kid i := fun hm' => by have := hT.one j i q hq hm'; omega
       simp [this]
     ·have e : j = i := by omega
      subst e
      intro _
      have h3 : j ∉ T.kid j := fun hm' => by have := (hT.lt j j hm').1; omega
      rw [sm_congr (g := c') (fun q hq => by simp [hq])]
      simp only [h3, if_false]
      rw [hcs', hyi]
      exact ⟨hs3, hs4⟩)
   refine ⟨z, hz, ?_⟩
   rw [hzx k (fun j hj hk' => by have := hT.one i j k hki hk'; omega)]
   simp [hki, c']
  ·have h4 := hsub k hk
   obtain ⟨z, hz, hzx⟩ := extend T hT lo hi hne hup T.n 0 (by omega) (fun j => if j = k then v else lo j)
    (fun j hj => by
     by_cases h : j = k
     ·subst h; simp only [if_true]; omega
     ·simp only [h, if_false]; exact ⟨Int.le_refl _, hne j hj⟩)
    (fun j hj => absurd hj (Nat.not_lt_zero _))
   refine ⟨z, hz, ?_⟩
   rw [hzx k (fun j _ hk' => hp ⟨j, by have := hT.lt j k hk'; omega, hk'⟩)]
   simp
end Go.Proofs.FlowTree
end
section
namespace Go.Proofs.Ytbgchacafglcpaa.P
open Go.RowKit Go.Proofs.YtbgchacafglcpaaW.PrintWords Go.Proofs.YtbgchacafglcpaaW.PrintLast Go.Proofs.YtbgchacafglcpaaW.PrintMore Go.Proofs.YtbgchacafglcpaaH Go.Proofs.FlowTree
abbrev CH := S43
abbrev RGE := S38
theorem right_mono {c t v v' : Int} (hc : 0 ≤ c) (ht : 1 ≤ t) (h : v ≤ v') : rightV c t v ≤ rightV c t v' := by
 unfold rightV
 have := Int.mul_le_mul_of_nonneg_left h hc
 exact Int.ediv_le_ediv (by omega) (by omega)
theorem right_bd {c t v : Int} (hc : 0 ≤ c) (ht : 1 ≤ t) (h0 : 0 ≤ v) (h : v ≤ t) : 0 ≤ rightV c t v ∧ rightV c t v ≤ c := by
 have h1 := Int.mul_nonneg hc h0
 have h2 := Int.mul_le_mul_of_nonneg_left h hc
 constructor
 ·unfold rightV
  exact Int.ediv_nonneg (by omega) (by omega)
 ·have : rightV c t v < c + 1 := by
   unfold rightV
   refine Int.ediv_lt_of_lt_mul (by omega) ?_
   have : (c + 1) * (2 * t) = 2 * (c * t) + 2 * t := by rw [Int.add_mul, Int.one_mul, ← Int.mul_assoc, Int.mul_comm c 2, Int.mul_assoc]
   omega
  omega
abbrev cc (bs : List CH) (j : Nat) : CH := rd_T43 bs (j : Int)
abbrev qq (l : List RGE) (j : Nat) : RGE := rd_T38 l (j : Int)
theorem cc_set (bs : List CH) (i j : Nat) (y : CH) (hi : i < bs.length) : cc (bs.set i y) j = if i = j then y else cc bs j := by
 simp only [cc, rd_T43, List.getD_eq_getElem?_getD, Int.toNat_natCast, List.getElem?_set]
 by_cases e : i = j
 ·subst e; simp [hi]
 ·simp [e]
theorem qq_map (f : RGE → RGE) (l : List RGE) (j : Nat) (h : j < l.length) : qq (l.map f) j = f (qq l j) := by
 simp [qq, rd_T38, List.getD_eq_getElem?_getD, h]
theorem qq_mem (l : List RGE) (j : Nat) (h : j < l.length) : qq l j ∈ l := by
 simp [qq, rd_T38, List.getD_eq_getElem?_getD, h]
theorem cc_ext {a b : List CH} (hl : a.length = b.length) (h : ∀ j, j < a.length → cc a j = cc b j) : a = b := by
 apply List.ext_getElem hl
 intro i h1 h2
 have := h i h1
 simpa [cc, rd_T43, List.getD_eq_getElem?_getD, h1, h2] using this
theorem foldl_rng {α : Type} (g : α → Nat → α) (x : α) (n : Nat) : (List.range (n + 1)).foldl g x = g ((List.range n).foldl g x) n := by
 rw [List.range_succ, List.foldl_append]; rfl
def PartsOk (c t : Int) (l : List RGE) : Prop := 0 ≤ c ∧ c ≤ 1000000000 ∧ 1 ≤ t ∧ t ≤ 1000000000 ∧ l.length ≤ 200 ∧ ∀ j, j < l.length → 0 ≤ (qq l j).f0 ∧ (qq l j).f0 ≤ (qq l j).f1 ∧ (qq l j).f1 ≤ t
theorem outR_iff (t : Int) (r : RGE) : outR t r = false ↔ 0 ≤ r.f0 ∧ r.f0 ≤ r.f1 ∧ r.f1 ≤ t := by
 simp only [outR, Bool.or_eq_false_iff, decide_eq_false_iff_not]
 omega
theorem parts_iff (c t : Int) (l : List RGE) : (c < 0 ∨ 1000000000 < c ∨ t < 1 ∨ 1000000000 < t ∨ 200 < l.length ∨ l.any (outR t) = true) ↔ ¬ PartsOk c t l := by
 have hany : l.any (outR t) = false ↔ ∀ j, j < l.length → 0 ≤ (qq l j).f0 ∧ (qq l j).f0 ≤ (qq l j).f1 ∧ (qq l j).f1 ≤ t := by
  rw [List.any_eq_false]
  constructor
  ·intro h j hj
   exact (outR_iff t _).1 (by have := h _ (qq_mem l j hj); simpa using this)
  ·intro h x hx
   obtain ⟨j, hj, rfl⟩ := List.mem_iff_getElem.1 hx
   have e : qq l j = l[j] := by simp [qq, rd_T38, List.getD_eq_getElem?_getD, hj]
   have := (outR_iff t (qq l j)).2 (h j hj)
   rw [e] at this
   simp [this]
 constructor
 ·rintro h ⟨h1, h2, h3, h4, h5, h6⟩
  rcases h with h | h | h | h | h | h
  ·omega
  ·omega
  ·omega
  ·omega
  ·omega
  ·rw [hany.2 h6] at h; cases h
 ·intro h
  by_cases a1 : c < 0
  ·exact .inl a1
  by_cases a2 : 1000000000 < c
  ·exact .inr (.inl a2)
  by_cases a3 : t < 1
  ·exact .inr (.inr (.inl a3))
  by_cases a4 : 1000000000 < t
  ·exact .inr (.inr (.inr (.inl a4)))
  by_cases a5 : 200 < l.length
  ·exact .inr (.inr (.inr (.inr (.inl a5))))
  refine .inr (.inr (.inr (.inr (.inr ?_))))
  cases hx : l.any (outR t) with
  | true => rfl
  | false => exact absurd ⟨by omega, by omega, by omega, by omega, by omega, hany.1 hx⟩ h
theorem boundsC_ok {c t : Int} {l : List RGE} (h : PartsOk c t l) : boundsC c t l = (l.map (chgR c t), 0) := by
 unfold boundsC
 rw [if_neg (fun hh => (parts_iff c t l).1 hh h)]
theorem boundsC_no {c t : Int} {l : List RGE} (h : ¬ PartsOk c t l) : boundsC c t l = ([], 1) := by
 unfold boundsC
 rw [if_pos ((parts_iff c t l).2 h)]
section
variable {c t : Int} {l : List RGE}
def bLo (c t : Int) (l : List RGE) (j : Nat) : Int := rightV c t (qq l j).f0
def bHi (c t : Int) (l : List RGE) (j : Nat) : Int := rightV c t (qq l j).f1
theorem b_bd (h : PartsOk c t l) (j : Nat) (hj : j < l.length) : 0 ≤ bLo c t l j ∧ bLo c t l j ≤ bHi c t l j ∧ bHi c t l j ≤ c := by
 obtain ⟨h1, h2, h3, h4, h5, h6⟩ := h
 have := h6 j hj
 exact ⟨(right_bd h1 h3 (by omega) (by omega)).1, right_mono h1 h3 (by omega), (right_bd h1 h3 (by omega) (by omega)).2⟩
theorem wrap_id' {n : Int} (h1 : -9223372036854775808 ≤ n) (h2 : n ≤ 9223372036854775807) : wrap64 n = n := by unfold wrap64; omega
structure Form (homes : List Int) (c t : Int) (l : List RGE) (j : Nat) (b : CH) : Prop where
 home : b.f0 = rd homes (j : Int)
 lo : b.f2.f0 = bLo c t l j
 hi : b.f2.f1 = bHi c t l j
 sure : b.f3 = (bLo c t l j == bHi c t l j)
 ge : bLo c t l j ≤ b.f1
 le : b.f1 ≤ bHi c t l j
theorem bill_form (homes : List Int) (h : PartsOk c t l) (j : Nat) (hj : j < l.length) : Form homes c t l j (billOf (rd homes (j : Int)) (qq (l.map (chgR c t)) j)) ∧ (billOf (rd homes (j : Int)) (qq (l.map (chgR c t)) j)).f1 = (bLo c t l j + bHi c t l j) / 2 := by
 have hb := b_bd h j hj
 have hc := h.2.1
 rw [qq_map _ _ _ hj]
 have e : (billOf (rd homes (j : Int)) (chgR c t (qq l j))).f1 = (bLo c t l j + bHi c t l j) / 2 := by
  show wrap64 (Int.tdiv (wrap64 (bLo c t l j + bHi c t l j)) 2) = _
  rw [wrap_id' (n := bLo c t l j + bHi c t l j) (by omega) (by omega), Int.tdiv_eq_ediv_of_nonneg (by omega), wrap_id' (by omega) (by omega)]
 refine ⟨⟨rfl, rfl, rfl, rfl, ?_, ?_⟩, e⟩
 ·rw [e]; omega
 ·rw [e]; omega
theorem bills_at (homes : List Int) (bs : List RGE) (n : Nat) : ∀ i, i ≤ n → ∀ j, j < n → cc (billsN homes bs n i) j = if j < i then billOf (rd homes (j : Int)) (qq bs j) else z43 := by
 intro i
 induction i with
 | zero =>
  intro _ j hj
  simp [billsN, cc, rd_T43, List.getD_eq_getElem?_getD, List.getElem?_replicate, hj]
 | succ i ih =>
  intro hi j hj
  have e : billsN homes bs n (i + 1) = (billsN homes bs n i).set i (billOf (rd homes (i : Int)) (qq bs i)) := foldl_rng _ _ _
  rw [e, cc_set _ _ _ _ (by rw [billsN_len]; omega)]
  by_cases h : i = j
  ·subst h; rw [if_pos rfl, if_pos (by omega)]
  ·rw [if_neg h, ih (by omega) j hj]
   by_cases h2 : j < i
   ·rw [if_pos h2, if_pos (by omega)]
   ·rw [if_neg h2, if_neg (by omega)]
theorem sum_at (h : PartsOk c t l) : ∀ i, i ≤ l.length → sumN (l.map (chgR c t)) i = sm (fun j => (bLo c t l j + bHi c t l j) / 2) (List.range i) ∧ 0 ≤ sumN (l.map (chgR c t)) i ∧ sumN (l.map (chgR c t)) i ≤ 1000000000 * i := by
 intro i
 induction i with
 | zero => intro _; exact ⟨rfl, Int.le_refl _, by simp [sumN]⟩
 | succ i ih =>
  intro hi
  obtain ⟨h1, h2, h3⟩ := ih (by omega)
  have hb := b_bd h i (by omega)
  have hc := h.2.1
  have hn := h.2.2.2.2.1
  have e : sumN (l.map (chgR c t)) (i + 1) = wrap64 (sumN (l.map (chgR c t)) i + (billOf 0 (qq (l.map (chgR c t)) i)).f1) := foldl_rng _ _ _
  have e2 : (billOf 0 (qq (l.map (chgR c t)) i)).f1 = (bLo c t l i + bHi c t l i) / 2 := (bill_form [] h i (by omega)).2
  rw [e, e2, wrap_id' (by omega) (by omega)]
  refine ⟨?_, by omega, by omega⟩
  rw [List.range_succ, sm_append, sm_cons, sm_nil, h1]
  omega
theorem least_at (h : PartsOk c t l) : ∀ i, i ≤ l.length → leastN l i = sm (fun j => (qq l j).f0) (List.range i) ∧ 0 ≤ leastN l i ∧ leastN l i ≤ 1000000000 * i := by
 intro i
 induction i with
 | zero => intro _; exact ⟨rfl, Int.le_refl _, by simp [leastN]⟩
 | succ i ih =>
  intro hi
  obtain ⟨h1, h2, h3⟩ := ih (by omega)
  have hb := h.2.2.2.2.2 i (by omega)
  have ht := h.2.2.2.1
  have hn := h.2.2.2.2.1
  have e : leastN l (i + 1) = wrap64 (leastN l i + (qq l i).f0) := foldl_rng _ _ _
  rw [e, wrap_id' (by omega) (by omega)]
  refine ⟨?_, by omega, by omega⟩
  rw [List.range_succ, sm_append, sm_cons, sm_nil, h1]
  omega
theorem sm_upd (f g : Nat → Int) (i : Nat) (d : Int) (hg : ∀ j, j ≠ i → g j = f j) (hi : g i = f i + d) : ∀ n, sm g (List.range n) = sm f (List.range n) + if i < n then d else 0 := by
 intro n
 induction n with
 | zero => simp [sm_nil]
 | succ n ih =>
  rw [List.range_succ, sm_append, sm_append, sm_cons, sm_cons, sm_nil, sm_nil, ih]
  by_cases e : n = i
  ·subst e
   rw [hi, if_neg (Nat.lt_irrefl _), if_pos (Nat.lt_succ_self _)]; omega
  ·rw [hg n e]
   by_cases h : i < n
   ·rw [if_pos h, if_pos (by omega)]; omega
   ·rw [if_neg h, if_neg (by omega)]; omega
structure LowAt (homes : List Int) (c t : Int) (l : List RGE) (k : Nat) (p : List CH × Int) : Prop where
 len : p.1.length = l.length
 form : ∀ j, j < l.length → Form homes c t l j (cc p.1 j)
 sum : p.2 = sm (fun j => (cc p.1 j).f1) (List.range l.length)
 bd : 0 ≤ p.2 ∧ p.2 ≤ 200000000000
 low : c < p.2 → ∀ j, j < l.length → l.length ≤ j + k → (cc p.1 j).f1 = bLo c t l j
theorem low_start (homes : List Int) (h : PartsOk c t l) : LowAt homes c t l 0 (billsN homes (l.map (chgR c t)) l.length l.length, sumN (l.map (chgR c t)) l.length) := by
 have hs := sum_at h l.length (Nat.le_refl _)
 have hn := h.2.2.2.2.1
 have hat : ∀ j, j < l.length → cc (billsN homes (l.map (chgR c t)) l.length l.length) j = billOf (rd homes (j : Int)) (qq (l.map (chgR c t)) j) := fun j hj => by
  rw [bills_at homes _ _ _ (Nat.le_refl _) j hj, if_pos hj]
 refine ⟨billsN_len _ _ _ _, fun j hj => ?_, ?_, ⟨hs.2.1, by have := hs.2.2; show sumN _ _ ≤ _; omega⟩, fun _ j h1 h2 => by omega⟩
 ·show Form homes c t l j (cc (billsN homes (l.map (chgR c t)) l.length l.length) j)
  rw [hat j hj]
  exact (bill_form homes h j hj).1
 ·show sumN _ _ = _
  rw [hs.1]
  refine sm_congr (fun j hj => ?_)
  have hj' := List.mem_range.1 hj
  show _ = (cc (billsN homes (l.map (chgR c t)) l.length l.length) j).f1
  rw [hat j hj']
  exact (bill_form homes h j hj').2.symm
theorem mx_max' (a b : Int) : mx a b = max a b := by unfold mx; split <;> omega
theorem mn_min' (a b : Int) : mn a b = min a b := by unfold mn; split <;> omega
theorem sm_cents {homes : List Int} (h : PartsOk c t l) {bs : List CH} (hf : ∀ j, j < l.length → Form homes c t l j (cc bs j)) : 0 ≤ sm (fun j => (cc bs j).f1) (List.range l.length) ∧ sm (fun j => (cc bs j).f1) (List.range l.length) ≤ 200000000000 := by
 have hn := h.2.2.2.2.1
 have hc := h.2.1
 have := sm_bound (f := fun j => (cc bs j).f1) (ks := List.range l.length) (a := 0) (b := 1000000000) (fun j hj => by
  have hj' := List.mem_range.1 hj
  have h1 := hf j hj'
  have h2 := b_bd h j hj'
  have := h1.ge
  have := h1.le
  show 0 ≤ (cc bs j).f1 ∧ (cc bs j).f1 ≤ 1000000000
  omega)
 rw [List.length_range] at this
 omega
theorem low_step {homes : List Int} (h : PartsOk c t l) {k : Nat} (hk : k < l.length) {p : List CH × Int} (hp : LowAt homes c t l k p) :
  LowAt homes c t l (k + 1) (lowStep c p (l.length - 1 - k)) ∧ (lowBy (wrap64 (p.2 - c)) (cc p.1 (l.length - 1 - k)).f1 (cc p.1 (l.length - 1 - k)).f2.f0 = max 0 (min (p.2 - c) ((cc p.1 (l.length - 1 - k)).f1 - bLo c t l (l.length - 1 - k)))) ∧
   lowStep c p (l.length - 1 - k) = (p.1.set (l.length - 1 - k) ⟨(cc p.1 (l.length - 1 - k)).f0, (cc p.1 (l.length - 1 - k)).f1 - max 0 (min (p.2 - c) ((cc p.1 (l.length - 1 - k)).f1 - bLo c t l (l.length - 1 - k))), (cc p.1 (l.length - 1 - k)).f2, (cc p.1 (l.length - 1 - k)).f3⟩, p.2 - max 0 (min (p.2 - c) ((cc p.1 (l.length - 1 - k)).f1 - bLo c t l (l.length - 1 - k)))) := by
 obtain ⟨i, hi⟩ : ∃ i, i = l.length - 1 - k := ⟨_, rfl⟩
 rw [← hi]
 have hil : i < l.length := by omega
 have hf := hp.form i hil
 have hb := b_bd h i hil
 have hc0 := h.1
 have hc := h.2.1
 have hs := hp.bd
 have g1 := hf.ge
 have g2 := hf.le
 have e1 : lowBy (wrap64 (p.2 - c)) (cc p.1 i).f1 (cc p.1 i).f2.f0 = max 0 (min (p.2 - c) ((cc p.1 i).f1 - bLo c t l i)) := by
  unfold lowBy
  rw [mx_max', mn_min', hf.lo, wrap_id' (n := p.2 - c) (by omega) (by omega), wrap_id' (n := (cc p.1 i).f1 - bLo c t l i) (by omega) (by omega)]
 obtain ⟨d, hd⟩ : ∃ d, d = max 0 (min (p.2 - c) ((cc p.1 i).f1 - bLo c t l i)) := ⟨_, rfl⟩
 rw [← hd] at e1 ⊢
 have e2 : lowStep c p i = (p.1.set i ⟨(cc p.1 i).f0, (cc p.1 i).f1 - d, (cc p.1 i).f2, (cc p.1 i).f3⟩, p.2 - d) := by
  show (p.1.set i ⟨(cc p.1 i).f0, wrap64 ((cc p.1 i).f1 - lowBy (wrap64 (p.2 - c)) (cc p.1 i).f1 (cc p.1 i).f2.f0), (cc p.1 i).f2, (cc p.1 i).f3⟩, wrap64 (p.2 - lowBy (wrap64 (p.2 - c)) (cc p.1 i).f1 (cc p.1 i).f2.f0)) = _
  rw [e1, wrap_id' (n := (cc p.1 i).f1 - d) (by omega) (by omega), wrap_id' (n := p.2 - d) (by omega) (by omega)]
 refine ⟨?_, e1, e2⟩
 rw [e2]
 have hset : ∀ j, cc (p.1.set i ⟨(cc p.1 i).f0, (cc p.1 i).f1 - d, (cc p.1 i).f2, (cc p.1 i).f3⟩) j = if i = j then ⟨(cc p.1 i).f0, (cc p.1 i).f1 - d, (cc p.1 i).f2, (cc p.1 i).f3⟩ else cc p.1 j := fun j => cc_set _ _ _ _ (by rw [hp.len]; exact hil)
 have hform : ∀ j, j < l.length → Form homes c t l j (cc (p.1.set i ⟨(cc p.1 i).f0, (cc p.1 i).f1 - d, (cc p.1 i).f2, (cc p.1 i).f3⟩) j) := fun j hj => by
  rw [hset j]
  by_cases e : i = j
  ·subst e
   rw [if_pos rfl]
   exact ⟨hf.home, hf.lo, hf.hi, hf.sure, by show bLo c t l i ≤ (cc p.1 i).f1 - d; omega, by show (cc p.1 i).f1 - d ≤ bHi c t l i; omega⟩
  ·rw [if_neg e]; exact hp.form j hj
 have hsum : p.2 - d = sm (fun j => (cc (p.1.set i ⟨(cc p.1 i).f0, (cc p.1 i).f1 - d, (cc p.1 i).f2, (cc p.1 i).f3⟩) j).f1) (List.range l.length) := by
  rw [sm_upd (fun j => (cc p.1 j).f1) _ i (-d) (fun j hj => by show (cc _ j).f1 = _; rw [hset j, if_neg (fun e => hj e.symm)]) (by show (cc _ i).f1 = _; rw [hset i, if_pos rfl]; show (cc p.1 i).f1 - d = _; omega) l.length, if_pos hil, ← hp.sum]
  omega
 refine ⟨by show (p.1.set _ _).length = _; rw [List.length_set, hp.len], hform, hsum, ?_, ?_⟩
 ·show 0 ≤ p.2 - d ∧ p.2 - d ≤ _
  rw [hsum]
  exact sm_cents h hform
 ·intro hlt j hj hjk
  have hlt' : c < p.2 - d := hlt
  show (cc (p.1.set _ _) j).f1 = _
  rw [hset j]
  by_cases e : i = j
  ·subst e
   rw [if_pos rfl]
   show (cc p.1 i).f1 - d = _
   omega
  ·rw [if_neg e]
   exact hp.low (by omega) j hj (by omega)
theorem low_all (homes : List Int) (h : PartsOk c t l) : ∀ k, k ≤ l.length → LowAt homes c t l k (lowAll c (downTo l.length k) (billsN homes (l.map (chgR c t)) l.length l.length, sumN (l.map (chgR c t)) l.length)) := by
 intro k
 induction k with
 | zero => intro _; exact low_start homes h
 | succ k ih =>
  intro hk
  have h1 := ih (by omega)
  have e : ∀ q, lowAll c (downTo l.length (k + 1)) q = lowStep c (lowAll c (downTo l.length k) q) (l.length - 1 - k) := fun q => by
   unfold lowAll
   rw [downTo_succ, List.foldl_append]
   rfl
  rw [e]
  exact (low_step h (by omega) h1).1
inductive ShareIs (c t : Int) (homes : List Int) (l : List RGE) : List CH × Int × Int → Prop
 | arg : ¬ (PartsOk c t l ∧ homes.length = l.length ∧ homesB 0 homes = true) → ShareIs c t homes l ([], 0, 1)
 | flow : PartsOk c t l → homes.length = l.length → homesB 0 homes = true → t < leastN l l.length → ShareIs c t homes l ([], 0, 30)
 | ok (p : List CH × Int) : PartsOk c t l → homes.length = l.length → homesB 0 homes = true → ¬ t < leastN l l.length → LowAt homes c t l l.length p →
   p = lowAll c (downTo l.length l.length) (billsN homes (l.map (chgR c t)) l.length l.length, sumN (l.map (chgR c t)) l.length) → ShareIs c t homes l (p.1, c - p.2, 0)
theorem shareC_is (c t : Int) (homes : List Int) (l : List RGE) : ShareIs c t homes l (shareC c t homes l) := by
 unfold shareC
 by_cases h : PartsOk c t l
 case neg =>
  rw [boundsC_no h, if_neg (by decide)]
  exact .arg (fun hh => h hh.1)
 rw [boundsC_ok h, if_pos rfl]
 by_cases hb : homes.length ≠ l.length ∨ homesB 0 homes = false
 ·rw [if_pos hb]
  refine .arg (fun hh => ?_)
  rcases hb with hb | hb
  ·exact hb hh.2.1
  ·rw [hh.2.2] at hb; cases hb
 rw [if_neg hb]
 have h1 : homes.length = l.length := Classical.byContradiction fun hn => hb (.inl hn)
 have h2 : homesB 0 homes = true := by
  cases hx : homesB 0 homes with
  | true => rfl
  | false => exact absurd (.inr hx) hb
 by_cases hl : t < leastN l l.length
 ·rw [if_pos hl]
  exact .flow h h1 h2 hl
 rw [if_neg hl]
 have hL := low_all homes h l.length (Nat.le_refl _)
 obtain ⟨p, hp⟩ : ∃ p, p = lowAll c (downTo l.length l.length) (billsN homes (l.map (chgR c t)) l.length l.length, sumN (l.map (chgR c t)) l.length) := ⟨_, rfl⟩
 show ShareIs c t homes l ((lowAll c (downTo l.length l.length) (billsN homes (l.map (chgR c t)) l.length l.length, sumN (l.map (chgR c t)) l.length)).1, wrap64 (c - (lowAll c (downTo l.length l.length) (billsN homes (l.map (chgR c t)) l.length l.length, sumN (l.map (chgR c t)) l.length)).2), 0)
 rw [← hp] at hL ⊢
 have hbd := hL.bd
 have hc := h.1
 have hc1 := h.2.1
 rw [wrap_id' (by omega) (by omega)]
 exact .ok p h h1 h2 hl hL hp
end
end Go.Proofs.Ytbgchacafglcpaa.P
end
section
namespace Go.Proofs.Ytbgchacafglcpaa.P
open Go.RowKit Go.Proofs.YtbgchacafglcpaaW.PrintWords Go.Proofs.YtbgchacafglcpaaW.PrintLast Go.Proofs.YtbgchacafglcpaaW.PrintMore Go.Proofs.YtbgchacafglcpaaH Go.Proofs.FlowTree
abbrev idP (l : List S63) (i : Nat) : Int := (rd_T63 l i).f0
abbrev abP (l : List S63) (i : Nat) : Int := (rd_T63 l i).f1
abbrev loP (l : List S63) (i : Nat) : Int := (rd_T63 l i).f2
def okP (l : List S63) (i : Nat) : Prop := 1 ≤ idP l i ∧ (0 < i → idP l (i - 1) < idP l i) ∧ (0 ≤ loP l i ∧ loP l i ≤ 1000000000) ∧ (abP l i ≠ 0 → ∃ j, j < i ∧ idP l j = abP l i)
def kidsAt (l : List S63) (m i : Nat) : List Nat := (List.range m).filter (fun k => decide (i < k) && decide (abP l k = idP l i))
def netT (l : List S63) : Net := { n := l.length, kid := kidsAt l l.length, loss := loP l }
theorem kidsAt_mem {l : List S63} {m i k : Nat} : k ∈ kidsAt l m i ↔ k < m ∧ i < k ∧ abP l k = idP l i := by
 simp [kidsAt]
theorem kidsAt_succ (l : List S63) (m i : Nat) : kidsAt l (m + 1) i = kidsAt l m i ++ (if i < m ∧ abP l m = idP l i then [m] else []) := by
 unfold kidsAt
 rw [List.range_succ, List.filter_append]
 congr 1
 by_cases h : i < m ∧ abP l m = idP l i
 ·rw [if_pos h, List.filter_cons_of_pos (by simp [h])]; rfl
 ·rw [if_neg h, List.filter_cons_of_neg (by simpa using h)]; rfl
theorem asc_of {l : List S63} {m : Nat} (h : ∀ i, i < m → okP l i) : ∀ d i j, j = i + d + 1 → j < m → idP l i < idP l j := by
 intro d
 induction d with
 | zero =>
  intro i j e hj
  have := (h j hj).2.1 (by omega)
  rwa [show j - 1 = i by omega] at this
 | succ d ih =>
  intro i j e hj
  have h1 := ih i (j - 1) (by omega) (by omega)
  have h2 := (h j hj).2.1 (by omega)
  omega
theorem asc {l : List S63} {m : Nat} (h : ∀ i, i < m → okP l i) {i j : Nat} (hij : i < j) (hj : j < m) : idP l i < idP l j := asc_of h (j - i - 1) i j (by omega) hj
theorem id_inj {l : List S63} {m : Nat} (h : ∀ i, i < m → okP l i) {i j : Nat} (hi : i < m) (hj : j < m) (e : idP l i = idP l j) : i = j := by
 rcases Nat.lt_trichotomy i j with h1 | h1 | h1
 ·have := asc h h1 hj; omega
 ·exact h1
 ·have := asc h h1 hi; omega
theorem isVol_iff (n : Int) : isVol n = true ↔ 0 ≤ n ∧ n ≤ 1000000000 := by simp [isVol]
structure OpenAt (l : List S63) (m : Nat) (kids : List (List Int)) (at_ : Int → Option Int) : Prop where
 len : kids.length = l.length
 kid : ∀ j, j < l.length → rdK kids j = (kidsAt l m j).map Int.ofNat
 has : ∀ id j, at_ id = some j → ∃ n : Nat, j = n ∧ n < m ∧ idP l n = id
 all : ∀ n, n < m → at_ (idP l n) = some (n : Int)
theorem rdK_set (kids : List (List Int)) (i j : Nat) (x : List Int) (hi : i < kids.length) : rdK (kids.set i x) j = if i = j then x else rdK kids j := by
 simp only [rdK, List.getD_eq_getElem?_getD, Int.toNat_natCast, List.getElem?_set]
 by_cases h : i = j
 ·subst h; simp [hi]
 ·simp [h]
theorem bad_iff (l : List S63) (m : Nat) (kids : List (List Int)) (at_ : Int → Option Int) (h : OpenAt l m kids at_) : badP l m (at_ (abP l m)).isSome = false ↔ okP l m := by
 have hasiff : (at_ (abP l m)).isSome = true ↔ ∃ j, j < m ∧ idP l j = abP l m := by
  constructor
  ·intro hs
   obtain ⟨j, hj⟩ := Option.isSome_iff_exists.1 hs
   obtain ⟨n, _, hn, e⟩ := h.has _ _ hj
   exact ⟨n, hn, e⟩
  ·rintro ⟨j, hj, e⟩
   rw [← e, h.all j hj]
   rfl
 have hm1 : (0 : Int) < (m : Int) → ((m : Int) - 1) = ((m - 1 : Nat) : Int) := by omega
 unfold badP okP
 simp only [idP, loP, abP] at *
 constructor
 ·intro hb
  simp only [Bool.or_eq_false_iff, Bool.and_eq_false_iff, decide_eq_false_iff_not, Bool.not_eq_false', isVol_iff, bne_eq_false_iff_eq, Bool.not_eq_false'] at hb
  obtain ⟨⟨⟨h1, h2⟩, h3⟩, h4⟩ := hb
  refine ⟨by omega, fun hm => ?_, h3, fun ha => ?_⟩
  ·rcases h2 with h2 | h2
   ·omega
   ·rw [hm1 (by omega)] at h2; omega
  ·rcases h4 with h4 | h4
   ·exact absurd h4 ha
   ·exact hasiff.1 h4
 ·rintro ⟨h1, h2, h3, h4⟩
  simp only [Bool.or_eq_false_iff, Bool.and_eq_false_iff, decide_eq_false_iff_not, Bool.not_eq_false', isVol_iff, bne_eq_false_iff_eq, Bool.not_eq_false']
  refine ⟨⟨⟨by omega, ?_⟩, h3⟩, ?_⟩
  ·by_cases hm : 0 < m
   ·refine .inr ?_
    rw [hm1 (by omega)]
    have := h2 hm
    omega
   ·exact .inl (by omega)
  ·by_cases ha : abP l m = 0
   ·exact .inl ha
   ·exact .inr (hasiff.2 (h4 ha))
theorem open_step (l : List S63) (m : Nat) (hm : m < l.length) (kids : List (List Int)) (at_ : Int → Option Int) (h : OpenAt l m kids at_) (hok : ∀ i, i < m + 1 → okP l i) :
  OpenAt l (m + 1) (addKid kids (at_ (abP l m)) m) (setI at_ (idP l m) m) := by
 refine ⟨(addKid_len _ _ _).trans h.len, fun j hj => ?_, fun id j hj => ?_, fun n hn => ?_⟩
 ·rw [kidsAt_succ, List.map_append]
  cases ha : at_ (abP l m) with
  | none =>
   have hno : ¬ (j < m ∧ abP l m = idP l j) := by
    rintro ⟨h1, h2⟩
    rw [h2, h.all j h1] at ha
    cases ha
   rw [if_neg hno]
   simp only [addKid, List.map_nil, List.append_nil]
   exact h.kid j hj
  | some a =>
   obtain ⟨n, rfl, hn, hid⟩ := h.has _ _ ha
   have hnl : n < kids.length := by rw [h.len]; omega
   simp only [addKid]
   rw [Int.toNat_natCast, rdK_set _ _ _ _ hnl]
   by_cases e : n = j
   ·subst e
    rw [if_pos rfl, if_pos ⟨hn, hid.symm⟩, h.kid n hj]
    rfl
   ·rw [if_neg e, if_neg (fun hh => e (id_inj hok (by omega) (by omega) (hid.trans hh.2))), h.kid j hj]
    simp
 ·unfold setI at hj
  split at hj
  ·rename_i e
   injection hj with hj
   exact ⟨m, hj.symm, by omega, e.symm⟩
  ·obtain ⟨n, e, hn, hid⟩ := h.has _ _ hj
   exact ⟨n, e, by omega, hid⟩
 ·unfold setI
  by_cases e : n = m
  ·subst e; rw [if_pos rfl]
  ·rw [if_neg (fun hh => e (id_inj hok (by omega) (by omega) hh)), h.all n (by omega)]
theorem openL_spec (l : List S63) : ∀ (k m : Nat) (kids : List (List Int)) (at_ : Int → Option Int), m + k = l.length → OpenAt l m kids at_ → (∀ i, i < m → okP l i) →
  (∀ r, openL l k kids at_ m = some r → (∀ i, i < l.length → okP l i) ∧ r.length = l.length ∧ ∀ j, j < l.length → rdK r j = (kidsAt l l.length j).map Int.ofNat) ∧ ((∀ i, i < l.length → okP l i) → ∃ r, openL l k kids at_ m = some r) := by
 intro k
 induction k with
 | zero =>
  intro m kids at_ hm h hok
  have e : m = l.length := by omega
  subst e
  refine ⟨fun r hr => ?_, fun _ => ⟨kids, rfl⟩⟩
  simp only [openL, Option.some.injEq] at hr
  subst hr
  exact ⟨hok, h.len, h.kid⟩
 | succ k ih =>
  intro m kids at_ hm h hok
  have hb := bad_iff l m kids at_ h
  simp only [openL]
  cases hbad : badP l m (at_ (abP l m)).isSome with
  | true =>
   have hno : ¬ okP l m := fun ho => by rw [hb.2 ho] at hbad; cases hbad
   rw [if_pos rfl]
   exact ⟨(fun r hr => by cases hr), fun ho => absurd (ho m (by omega)) hno⟩
  | false =>
   have hyes := hb.1 hbad
   rw [if_neg (by decide)]
   have hok' : ∀ i, i < m + 1 → okP l i := fun i hi => by
    by_cases h' : i < m
    ·exact hok i h'
    ·rw [show i = m by omega]; exact hyes
   have := ih (m + 1) (addKid kids (at_ (abP l m)) m) (setI at_ (idP l m) m) (by omega) (open_step l m (by omega) kids at_ h hok') hok'
   rw [show ((m + 1 : Nat) : Int) = (m : Int) + 1 from by omega] at this
   exact this
theorem openAt0 (l : List S63) : OpenAt l 0 (List.replicate l.length []) (fun _ => none) := by
 refine ⟨by simp, fun j hj => ?_, (fun id j hj => by cases hj), fun n hn => absurd hn (Nat.not_lt_zero _)⟩
 simp [rdK, kidsAt, List.getD_eq_getElem?_getD, hj]
def okL (l : List S63) : Prop := ∀ i, i < l.length → okP l i
theorem openK_some {l : List S63} {kids : List (List Int)} (h : openK l = some kids) : okL l ∧ ∀ j, j < l.length → rdK kids j = (kidsAt l l.length j).map Int.ofNat := by
 have := (openL_spec l l.length 0 _ _ (by omega) (openAt0 l) (fun i hi => absurd hi (Nat.not_lt_zero _))).1 kids h
 exact ⟨this.1, this.2.2⟩
theorem openK_of {l : List S63} (h : okL l) : ∃ kids, openK l = some kids :=
 (openL_spec l l.length 0 _ _ (by omega) (openAt0 l) (fun i hi => absurd hi (Nat.not_lt_zero _))).2 h
theorem netT_ok {l : List S63} (h : okL l) : (netT l).Ok := by
 refine ⟨fun i k hk => ?_, fun i => ?_, fun i j k hi hj => ?_, fun i hi => (h i hi).2.2.1.1⟩
 ·have := kidsAt_mem.1 hk; exact ⟨this.2.1, this.1⟩
 ·exact List.Nodup.sublist List.filter_sublist List.nodup_range
 ·have h1 := kidsAt_mem.1 hi
  have h2 := kidsAt_mem.1 hj
  exact id_inj h (show i < l.length by omega) (show j < l.length by omega) (h1.2.2.symm.trans h2.2.2)
end Go.Proofs.Ytbgchacafglcpaa.P
end
