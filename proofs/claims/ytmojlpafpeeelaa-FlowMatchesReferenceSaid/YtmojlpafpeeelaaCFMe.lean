/- Part 5 of the proof of FlowMatchesReference: words and walks that the last part joins. -/
import Derived.ArgAppend
import Derived.Below
import Derived.BigQuiet
import Derived.ChangeOld
import Derived.ChangeSlices
import Derived.Deep.AppendLies
import Derived.Deep.CutBlock
import Derived.Deep.DeepCutAuto
import Derived.Deep.Draws
import Derived.Deep.LoopGhost
import Derived.Deep.OwnRows
import Derived.Deep.QuietTactic
import Derived.Deep.RegionHeld3
import Derived.Deep.Slices
import Derived.KernelRfl
import Derived.Laws.BitsLemmas
import Derived.Laws.BytesArg
import Derived.Laws.IdiomCopy
import Derived.Laws.MakeOwn
import Derived.Laws.OwnMore
import Derived.Laws.Rows
import Derived.Laws.Slices
import Derived.Laws.StructEq
import Derived.Lib.AppendStr
import Derived.Lib.ConvBytes
import Derived.LoopIn
import Derived.LoopNIn
import Derived.Maps.AppendAt
import Derived.Maps.Own
import Derived.OpenShut
import Derived.OrdersHeld
import Derived.OwnWalk
import Derived.OwnWalkIn
import Derived.ProofKit
import Derived.RangeFuncBound
import Derived.RangeFuncCalls
import Derived.RangeFuncLeaves
import Derived.RangeFuncNested
import Derived.RowKit
import Derived.RowKit3
import Derived.ShutString
import Derived.SizedLaws
import Derived.Tactics
import Derived.TacticsInMore
import Derived.Test.YtmojlpafpeeelaaProg
import Derived.WalkKit
import Derived.WideLaws
import Derived.Test.YtmojlpafpeeelaaCFMd
set_option linter.unusedVariables false
set_option linter.unusedSimpArgs false
section
namespace Go.Proofs.Ytmojlpafpeeelaa.P
open Go.RowKit Go.Proofs.YtmojlpafpeeelaaW.PrintWords Go.Proofs.YtmojlpafpeeelaaW.PrintLast Go.Proofs.YtmojlpafpeeelaaW.PrintMore
attribute [local go_sem] max2_int min2_int max_two min_two max_three min_three max_four min_four
set_option linter.unusedVariables false
set_option linter.unusedSimpArgs false
mutual
def cohousingref28_equation.l0 : Nat → List (S44) → List (S39) → Int → List Int → Int → Int → Int → Option ((List (S39)))
 | 0, _, _, _, _, _, _, _ => none
 | k + 1, x0, x1, x2, x3, x9, x10, x11 => if x11 < (x3.length : Int) then (if 0 ≤ x11 then (if 0 ≤ (rd x3 x11) then (if (rd x3 x11) < (x1.length : Int) then (cohousingref28_equation.l0 k x0 x1 x2 x3 (wrap64 (x9 + ((rd_T39 x1 (rd x3 x11)).f0))) (wrap64 (x10 + ((rd_T39 x1 (rd x3 x11)).f1))) (wrap64 (x11 + 1))) else (none)) else (none)) else (none)) else (if 0 ≤ x2 then (if x2 < (x1.length : Int) then (if x2 < (x0.length : Int) then ((cohousingref28_narrow.f ((rd_T39 x1 x2).f0) ((rd_T39 x1 x2).f1) x9 (wrap64 (x10 + ((rd_T44 x0 x2).f2)))).bind fun bt211 => (cohousingref28_equation.l1 k x0 x1 x2 x9 x10 ([] : List (S39)) 0 bt211.1 bt211.2)) else (none)) else (none)) else (none))
def cohousingref28_equation.l1 : Nat → List (S44) → List (S39) → Int → Int → Int → List (S39) → Int → Int → Int → Option ((List (S39)))
 | 0, _, _, _, _, _, _, _, _, _ => none
 | k + 1, x0, x1, x2, x9, x10, x13, x14, x214000, x214001 => if x14 < (x1.length : Int) then (if 0 ≤ x14 then (if x14 = x2 then (if x14 > x2 then (if x14 < (x0.length : Int) then (if 0 ≤ x2 then (if x2 < (x0.length : Int) then (if ((rd_T44 x0 x14).f1) = ((rd_T44 x0 x2).f0) then ((cohousingref28_narrow.f x214000 x214001 (wrap64 ((wrap64 (x214000 - ((rd_T44 x0 x2).f2))) - (wrap64 (x10 - x214001)))) (wrap64 (x214001 - (wrap64 (x9 - x214000))))).bind fun bt219 => (if x13.length < 8796093022208 then (cohousingref28_equation.l1 k x0 x1 x2 x9 x10 (x13 ++ [(⟨bt219.1, bt219.2⟩ : S39)]) (wrap64 (x14 + 1)) x214000 x214001) else (none))) else (if x13.length < 8796093022208 then (cohousingref28_equation.l1 k x0 x1 x2 x9 x10 (x13 ++ [(⟨x214000, x214001⟩ : S39)]) (wrap64 (x14 + 1)) x214000 x214001) else (none))) else (none)) else (none)) else (none)) else (if x13.length < 8796093022208 then (cohousingref28_equation.l1 k x0 x1 x2 x9 x10 (x13 ++ [(⟨x214000, x214001⟩ : S39)]) (wrap64 (x14 + 1)) x214000 x214001) else (none))) else (if x14 > x2 then (if x14 < (x0.length : Int) then (if 0 ≤ x2 then (if x2 < (x0.length : Int) then (if ((rd_T44 x0 x14).f1) = ((rd_T44 x0 x2).f0) then ((cohousingref28_narrow.f ((rd_T39 x1 x14).f0) ((rd_T39 x1 x14).f1) (wrap64 ((wrap64 (x214000 - ((rd_T44 x0 x2).f2))) - (wrap64 (x10 - ((rd_T39 x1 x14).f1))))) (wrap64 (x214001 - (wrap64 (x9 - ((rd_T39 x1 x14).f0)))))).bind fun bt233 => (if x13.length < 8796093022208 then (cohousingref28_equation.l1 k x0 x1 x2 x9 x10 (x13 ++ [(⟨bt233.1, bt233.2⟩ : S39)]) (wrap64 (x14 + 1)) x214000 x214001) else (none))) else (if x13.length < 8796093022208 then (cohousingref28_equation.l1 k x0 x1 x2 x9 x10 (x13 ++ [(⟨(rd_T39 x1 x14).f0, (rd_T39 x1 x14).f1⟩ : S39)]) (wrap64 (x14 + 1)) x214000 x214001) else (none))) else (none)) else (none)) else (none)) else (if x13.length < 8796093022208 then (cohousingref28_equation.l1 k x0 x1 x2 x9 x10 (x13 ++ [(⟨(rd_T39 x1 x14).f0, (rd_T39 x1 x14).f1⟩ : S39)]) (wrap64 (x14 + 1)) x214000 x214001) else (none)))) else (none)) else (some x13)
end
def cohousingref28_equation.f (k : Nat) (l0 : List (S44)) (l1 : List (S39)) (a2 : Int) (l3 : List Int) : Option ((List (S39))) := cohousingref28_equation.l0 k l0 l1 a2 l3 0 0 0
def cohousingref28_equation.T8 : Bool × List (List Nat × List Nat) := (true, [([], []), ([], []), ([0, 1], [0, 1]), ([2], [2]), ([], []), ([], []), ([], []), ([], []), ([6, 7], [6, 7]), ([8], [8]), ([9], [9]), ([5, 10], [5, 10]), ([3, 4, 11], [3, 4, 11]), ([], []), ([13, 12, 12, 0, 1, 2, 3, 4, 5, 6, 7, 8, 9, 10, 11, 12, 13], [12, 13])])
def cohousingref28_equation.B8 : List Nat := [0, 0, 3, 7, 0, 0, 0, 0, 192, 448, 960, 2016, 4095, 0, 16383]
theorem cohousingref28_equation.tab8 : rtab .any (opsOf Try.f52 8) = cohousingref28_equation.T8 := by kernel_rfl
theorem cohousingref28_equation.bits8 : waitsOk cohousingref28_equation.T8.2 cohousingref28_equation.B8 = true := by kernel_rfl
def cohousingref28_equation.T16 : Bool × List (List Nat × List Nat) := (true, [([], []), ([], []), ([0, 1], [0, 1]), ([2], [2]), ([3], [3]), ([3], [3]), ([4, 5, 3], [3, 4, 5]), ([6, 3], [3, 6]), ([7, 3], [3, 7]), ([3], [3]), ([3], [3]), ([9, 10, 3], [3, 9, 10]), ([11, 3], [3, 11]), ([12, 3], [3, 12]), ([8, 13, 3], [3, 8, 13]), ([3, 14], [3, 14])])
def cohousingref28_equation.B16 : List Nat := [0, 0, 3, 7, 15, 15, 63, 127, 255, 15, 15, 1551, 3599, 7695, 16383, 32767]
theorem cohousingref28_equation.tab16 : rtab .any (opsOf Try.f52 16) = cohousingref28_equation.T16 := by kernel_rfl
theorem cohousingref28_equation.bits16 : waitsOk cohousingref28_equation.T16.2 cohousingref28_equation.B16 = true := by kernel_rfl
def cohousingref28_equation.T17 : Bool × List (List Nat × List Nat) := (true, [([], []), ([], []), ([1], [1]), ([], []), ([], []), ([3, 4], [3, 4]), ([5], [5]), ([6], [6]), ([2, 7], [2, 7]), ([], []), ([], []), ([10], [10]), ([9, 11], [9, 11]), ([8, 12], [8, 12]), ([], []), ([14], [14]), ([], []), ([], []), ([17], [17]), ([16, 18], [16, 18]), ([15, 19], [15, 19]), ([0, 13, 20], [0, 13, 20]), ([21, 21, 0, 1, 2, 3, 4, 5, 6, 7, 8, 9, 10, 11, 12, 13, 14, 15, 16, 17, 18, 19, 20, 21], [21])])
def cohousingref28_equation.B17 : List Nat := [0, 0, 2, 0, 0, 24, 56, 120, 254, 0, 0, 1024, 3584, 8190, 0, 16384, 0, 0, 131072, 458752, 1032192, 2097151, 4194303]
theorem cohousingref28_equation.tab17 : rtab .any (opsOf Try.f52 17) = cohousingref28_equation.T17 := by kernel_rfl
theorem cohousingref28_equation.bits17 : waitsOk cohousingref28_equation.T17.2 cohousingref28_equation.B17 = true := by kernel_rfl
set_option maxHeartbeats 8000000 in
set_option maxRecDepth 100000 in
theorem cohousingref28_equation.calls (k : Nat) (A0 : Option Addr) (c0 : Nat) (l0 : List (S44)) (A1 : Option Addr) (c1 : Nat) (l1 : List (S39)) (a2 : Int) (A3 : Option Addr) (c3 : Nat) (l3 : List Int) (r : List (S39)) (w : World) (hr0 : Kd.C k44 w A0 l0.length l0) (hc0 : l0.length ≤ c0) (hr1 : Kd.C k39 w A1 l1.length l1) (hc1 : l1.length ≤ c1) (hr3 : Kd.C (Kd.int .i64) w A3 l3.length l3) (hc3 : l3.length ≤ c3) (h : cohousingref28_equation.f k l0 l1 a2 l3 = some r) :
  Calls Try.prog 52 #[.slice A0 l0.length c0, .slice A1 l1.length c1, .int .i64 a2, .slice A3 l3.length c3] w fun e w' => ∃ v0_ : Value, e = .returned (v0_) ∧ Kd.R k39 39 w' w.heap.size (fun _ => True) v0_ r ∧ Below w.heap.size w w' := by
 have hu39 := Try.underlying39
 have HR0 := Aside0.mk hr0
 have HC0 := Aside0.mk hc0
 clear hr0 hc0
 have HR1 := Aside0.mk hr1
 have HC1 := Aside0.mk hc1
 clear hr1 hc1
 have HR3 := Aside0.mk hr3
 have HC3 := Aside0.mk hc3
 clear hr3 hc3
 have HB := Aside0.mk (Below.refl w.heap.size w)
 have H : (cohousingref28_equation.l0 k l0 l1 a2 l3 0 0 0) = some r := h
 clear h
 have H' := Aside0.mk H
 clear H
 go_enter Try.func52, Try.ntmps52
 go_wp2
 go_loopg [9, 10, 11] k (fun kq v9 v10 v11 w' => ∃ (x9_1 : Int) (x10_1 : Int) (x11_1 : Int), v9 = .int .i64 x9_1 ∧ v10 = .int .i64 x10_1 ∧ v11 = .int .i64 x11_1 ∧ Aside0 (cohousingref28_equation.l0 kq l0 l1 a2 l3 x9_1 x10_1 x11_1 = some r) ∧ Aside0 (kq ≤ k) ∧ Aside0 (Below w.heap.size w w'))
 case atStart => exact ⟨(0), (0), (0), (by first | rfl | (simp; done) | (simp [*]; done)), (by first | rfl | (simp; done) | (simp [*]; done)), (by first | rfl | (simp; done) | (simp [*]; done)), H', ⟨Nat.le_refl _⟩, ⟨by repeat (first | (with_reducible first | exact HB.out | apply below_alloc | apply pw_below_drewN | apply below_drew1) | exact HB.out)⟩⟩
 case round =>
  clear H'
  try clear c1
  try clear p2
  try clear c3
  obtain ⟨x9_1, x10_1, x11_1, rfl, rfl, rfl, HA, HK1, HB⟩ := hrel
  cases gk with
  | zero => exact absurd HA.out (by simp [cohousingref28_equation.l0])
  | succ k1 =>
   have H := HA.out
   clear HA
   simp only [cohousingref28_equation.l0] at H
   by_cases c5 : x11_1 < (l3.length : Int)
   ·rw [if_pos c5] at H
    have c5b0 : decide (x11_1 < (l3.length : Int)) = true := decide_eq_true c5
    clear c5
    by_cases c6 : 0 ≤ x11_1
    ·rw [if_pos c6] at H
     have c6b0 : decide (0 ≤ x11_1) = true := decide_eq_true c6
     clear c6
     by_cases c7 : 0 ≤ (rd l3 x11_1)
     ·rw [if_pos c7] at H
      have c7b0 : decide (0 ≤ (rd l3 x11_1)) = true := decide_eq_true c7
      clear c7
      by_cases c8 : (rd l3 x11_1) < (l1.length : Int)
      ·rw [if_pos c8] at H
       have c8b0 : decide ((rd l3 x11_1) < (l1.length : Int)) = true := decide_eq_true c8
       clear c8
       have H' := Aside0.mk H
       clear H
       have p205 : 0 ≤ (x11_1 : Int) := of_decide_eq_true (by first | (with_reducible assumption) | assumption)
       have q205 : x11_1 < (l3.length : Int) := of_decide_eq_true (by first | (with_reducible assumption) | assumption)
       obtain ⟨ad205, e205, hx205_0⟩ := Kd.at_int HR3.out x11_1 p205 q205
       cases e205
       replace hx205_0 := (HB.out.cell (World.block_lt_of_cell? w _ hx205_0)).trans hx205_0
       replace p205 := eq_true p205
       replace q205 := eq_true q205
       have p206 : 0 ≤ ((rd l3 x11_1) : Int) := of_decide_eq_true (by first | (with_reducible assumption) | assumption)
       have q206 : (rd l3 x11_1) < (l1.length : Int) := of_decide_eq_true (by first | (with_reducible assumption) | assumption)
       obtain ⟨ad206, e206, hx206_0, hx206_1⟩ := at_T39 HR1.out (rd l3 x11_1) p206 q206
       cases e206
       replace hx206_0 := (HB.out.cell (World.block_lt_of_cell? w _ hx206_0)).trans hx206_0
       replace hx206_1 := (HB.out.cell (World.block_lt_of_cell? w _ hx206_1)).trans hx206_1
       replace p206 := eq_true p206
       replace q206 := eq_true q206
       have p207 : 0 ≤ (x11_1 : Int) := of_decide_eq_true (by first | (with_reducible assumption) | assumption)
       have q207 : x11_1 < (l3.length : Int) := of_decide_eq_true (by first | (with_reducible assumption) | assumption)
       obtain ⟨ad207, e207, hx207_0⟩ := Kd.at_int HR3.out x11_1 p207 q207
       obtain rfl : ad205 = ad207 := (by injection e207)
       replace hx207_0 := (HB.out.cell (World.block_lt_of_cell? w _ hx207_0)).trans hx207_0
       replace p207 := eq_true p207
       replace q207 := eq_true q207
       have p208 : 0 ≤ ((rd l3 x11_1) : Int) := of_decide_eq_true (by first | (with_reducible assumption) | assumption)
       have q208 : (rd l3 x11_1) < (l1.length : Int) := of_decide_eq_true (by first | (with_reducible assumption) | assumption)
       obtain ⟨ad208, e208, hx208_0, hx208_1⟩ := at_T39 HR1.out (rd l3 x11_1) p208 q208
       obtain rfl : ad206 = ad208 := (by injection e208)
       replace hx208_0 := (HB.out.cell (World.block_lt_of_cell? w _ hx208_0)).trans hx208_0
       replace hx208_1 := (HB.out.cell (World.block_lt_of_cell? w _ hx208_1)).trans hx208_1
       replace p208 := eq_true p208
       replace q208 := eq_true q208
       go_wp2
       go_roundg k1
       case measure => have := HK1.out; omega
       case rel => exact ⟨(wrap64 (x9_1 + ((rd_T39 l1 (rd l3 x11_1)).f0))), (wrap64 (x10_1 + ((rd_T39 l1 (rd l3 x11_1)).f1))), (wrap64 (x11_1 + 1)), (by first | rfl | (simp; done) | (simp [*]; done)), (by first | rfl | (simp; done) | (simp [*]; done)), (by first | rfl | (simp; done) | (simp [*]; done)), H', ⟨by have := HK1.out; omega⟩, ⟨by repeat (first | (with_reducible first | exact HB.out | apply below_alloc | apply pw_below_drewN | apply below_drew1) | exact HB.out)⟩⟩
      ·rw [if_neg c8] at H
       exact absurd H (by simp)
     ·rw [if_neg c7] at H
      exact absurd H (by simp)
    ·rw [if_neg c6] at H
     exact absurd H (by simp)
   ·rw [if_neg c5] at H
    have c5b0 : decide (x11_1 < (l3.length : Int)) = false := decide_eq_false c5
    clear c5
    by_cases c9 : 0 ≤ a2
    ·rw [if_pos c9] at H
     have c9b0 : decide (0 ≤ a2) = true := decide_eq_true c9
     clear c9
     by_cases c10 : a2 < (l1.length : Int)
     ·rw [if_pos c10] at H
      have c10b0 : decide (a2 < (l1.length : Int)) = true := decide_eq_true c10
      clear c10
      by_cases c11 : a2 < (l0.length : Int)
      ·rw [if_pos c11] at H
       have c11b0 : decide (a2 < (l0.length : Int)) = true := decide_eq_true c11
       clear c11
       replace H := Option.bind_eq_some_iff.mp H
       obtain ⟨⟨t211, t212⟩, A120, H⟩ := H
       replace H : (cohousingref28_equation.l1 k1 l0 l1 a2 x9_1 x10_1 ([] : List (S39)) 0 t211 t212) = some r := H
       have A12 := Aside0.mk A120
       clear A120
       have H' := Aside0.mk H
       clear H
       try go_wp2
       have n0_ := Aside0.mk (below_drew1 HB.out)
       clear HB
       have HB := n0_
       clear n0_
       have p209 : 0 ≤ (a2 : Int) := of_decide_eq_true (by first | (with_reducible assumption) | assumption)
       have q209 : a2 < (l1.length : Int) := of_decide_eq_true (by first | (with_reducible assumption) | assumption)
       obtain ⟨ad209, e209, hx209_0, hx209_1⟩ := at_T39 HR1.out a2 p209 q209
       have hw209_1 := hx209_1
       have hw209_0 := hx209_0
       cases e209
       replace hx209_0 := (HB.out.cell (World.block_lt_of_cell? w _ hx209_0)).trans hx209_0
       replace hx209_1 := (HB.out.cell (World.block_lt_of_cell? w _ hx209_1)).trans hx209_1
       replace p209 := eq_true p209
       replace q209 := eq_true q209
       have p210 : 0 ≤ (a2 : Int) := of_decide_eq_true (by first | (with_reducible assumption) | assumption)
       have q210 : a2 < (l0.length : Int) := of_decide_eq_true (by first | (with_reducible assumption) | assumption)
       obtain ⟨ad210, e210, hx210_0, hx210_1, hx210_2⟩ := at_T44 HR0.out a2 p210 q210
       have hw210_2 := hx210_2
       have hw210_1 := hx210_1
       have hw210_0 := hx210_0
       cases e210
       replace hx210_0 := (HB.out.cell (World.block_lt_of_cell? w _ hx210_0)).trans hx210_0
       replace hx210_1 := (HB.out.cell (World.block_lt_of_cell? w _ hx210_1)).trans hx210_1
       replace hx210_2 := (HB.out.cell (World.block_lt_of_cell? w _ hx210_2)).trans hx210_2
       replace p210 := eq_true p210
       replace q210 := eq_true q210
       refine start_ (n := 15) (S := fun w' => w'.cell? (ad209.add ((a2).toNat * 2)) = some (.int .i64 ((rd_T39 l1 a2).f0)) ∧ w'.cell? ⟨(ad209.add ((a2).toNat * 2)).block, (ad209.add ((a2).toNat * 2)).off + 1, none⟩ = some (.int .i64 ((rd_T39 l1 a2).f1)) ∧ w'.cell? (ad210.add ((a2).toNat * 3)) = some (.int .i64 ((rd_T44 l0 a2).f0)) ∧ w'.cell? ⟨(ad210.add ((a2).toNat * 3)).block, (ad210.add ((a2).toNat * 3)).off + 1, none⟩ = some (.int .i64 ((rd_T44 l0 a2).f1)) ∧ w'.cell? ⟨(ad210.add ((a2).toNat * 3)).block, (ad210.add ((a2).toNat * 3)).off + 2, none⟩ = some (.int .i64 ((rd_T44 l0 a2).f2))) (ds := []) #[n_, n_, n_, n_, n_, n_, n_, n_, n_, n_, n_, n_, n_, n_, n_] (by kernel_rfl) rfl rfl ⟨((HB.out.cell (World.block_lt_of_cell? w _ hw209_0)).trans hw209_0), ((HB.out.cell (World.block_lt_of_cell? w _ hw209_1)).trans hw209_1), ((HB.out.cell (World.block_lt_of_cell? w _ hw210_0)).trans hw210_0), ((HB.out.cell (World.block_lt_of_cell? w _ hw210_1)).trans hw210_1), ((HB.out.cell (World.block_lt_of_cell? w _ hw210_2)).trans hw210_2)⟩ (fun hHeld => ?_); refine with_tabW cohousingref28_equation.tab8 cohousingref28_equation.bits8 (fun HT_ HW_ => ?_)
       generalize wr.drew = w13 at HB hx209_0 hx209_1 hx210_0 hx210_1 hx210_2 hHeld ⊢
       refine pure_ (i := 0) (N := some 42) (v := ?_) (a' := ?_) #[y_, n_, n_, n_, n_, n_, n_, n_, n_, n_, n_, n_, n_, n_, n_] rfl rfl (any_of HT_.out (by kernel_rfl)) (fun _ _ _ h => h) (Or.inl ⟨by rfl, ?_⟩) ?_ ?_
       rotate_left
       ·intro w'
        go_simp
        with_reducible rfl
       rotate_left
       ·simp only [Act.put, sI_, s0_, sS_, i64_w, i32_w]
        rfl
       refine pure_ (i := 1) (N := some 43) (v := ?_) (a' := ?_) #[y_, y_, n_, n_, n_, n_, n_, n_, n_, n_, n_, n_, n_, n_, n_] rfl rfl (any_of HT_.out (by kernel_rfl)) (fun _ _ _ h => h) (Or.inl ⟨by rfl, ?_⟩) ?_ ?_
       rotate_left
       ·intro w'
        go_simp
        with_reducible rfl
       rotate_left
       ·simp only [Act.put, sI_, s0_, sS_, i64_w, i32_w]
        rfl
       refine pure_ (i := 2) (N := some 44) (v := ?_) (a' := ?_) #[y_, y_, y_, n_, n_, n_, n_, n_, n_, n_, n_, n_, n_, n_, n_] rfl rfl (any_of HT_.out (by kernel_rfl)) (fun _ _ _ h => h) (Or.inl ⟨by rfl, ?_⟩) ?_ ?_
       rotate_left
       ·intro w'
        go_simp
        with_reducible rfl
       rotate_left
       ·simp only [Act.put, sI_, s0_, sS_, i64_w, i32_w]
        rfl
       refine pure_ (i := 4) (N := some 46) (v := ?_) (a' := ?_) #[y_, y_, y_, n_, y_, n_, n_, n_, n_, n_, n_, n_, n_, n_, n_] rfl rfl (any_of HT_.out (by kernel_rfl)) (fun _ _ _ h => h) (Or.inl ⟨by rfl, ?_⟩) ?_ ?_
       rotate_left
       ·intro w'
        go_simp
        with_reducible rfl
       rotate_left
       ·simp only [Act.put, sI_, s0_, sS_, i64_w, i32_w]
        rfl
       refine pure_ (i := 5) (N := some 47) (v := ?_) (a' := ?_) #[y_, y_, y_, n_, y_, y_, n_, n_, n_, n_, n_, n_, n_, n_, n_] rfl rfl (any_of HT_.out (by kernel_rfl)) (fun _ _ _ h => h) (Or.inl ⟨by rfl, ?_⟩) ?_ ?_
       rotate_left
       ·intro w'
        go_simp
        with_reducible rfl
       rotate_left
       ·simp only [Act.put, sI_, s0_, sS_, i64_w, i32_w]
        rfl
       refine pure_ (i := 6) (N := some 48) (v := ?_) (a' := ?_) #[y_, y_, y_, n_, y_, y_, y_, n_, n_, n_, n_, n_, n_, n_, n_] rfl rfl (any_of HT_.out (by kernel_rfl)) (fun _ _ _ h => h) (Or.inl ⟨by rfl, ?_⟩) ?_ ?_
       rotate_left
       ·intro w'
        go_simp
        with_reducible rfl
       rotate_left
       ·simp only [Act.put, sI_, s0_, sS_, i64_w, i32_w]
        rfl
       refine pure_ (i := 7) (N := some 49) (v := ?_) (a' := ?_) #[y_, y_, y_, n_, y_, y_, y_, y_, n_, n_, n_, n_, n_, n_, n_] rfl rfl (any_of HT_.out (by kernel_rfl)) (fun _ _ _ h => h) (Or.inl ⟨by rfl, ?_⟩) ?_ ?_
       rotate_left
       ·intro w'
        go_simp
        with_reducible rfl
       rotate_left
       ·simp only [Act.put, sI_, s0_, sS_, i64_w, i32_w]
        rfl
       refine pure_ (i := 8) (N := some 50) (v := ?_) (a' := ?_) #[y_, y_, y_, n_, y_, y_, y_, y_, y_, n_, n_, n_, n_, n_, n_] rfl rfl (any_of HT_.out (by kernel_rfl)) (fun _ _ _ h => h) (Or.inl ⟨by rfl, ?_⟩) ?_ ?_
       rotate_left
       ·intro w'
        go_simp
        with_reducible rfl
       rotate_left
       ·simp only [Act.put, sI_, s0_, sS_, i64_w, i32_w]
        rfl
       refine pure_ (i := 9) (N := some 51) (v := ?_) (a' := ?_) #[y_, y_, y_, n_, y_, y_, y_, y_, y_, y_, n_, n_, n_, n_, n_] rfl rfl (any_of HT_.out (by kernel_rfl)) (fun _ _ _ h => h) (Or.inl ⟨by rfl, ?_⟩) ?_ ?_
       rotate_left
       ·intro w'
        go_simp
        with_reducible rfl
       rotate_left
       ·simp only [Act.put, sI_, s0_, sS_, i64_w, i32_w]
        rfl
       refine take_ (i := 3) (N := some 45) (v := ?_) (a' := ?_) #[y_, y_, y_, y_, y_, y_, y_, y_, y_, y_, n_, n_, n_, n_, n_] rfl rfl (take_ofW HT_.out HW_.out (by kernel_rfl)) (fun _ _ _ h => h) (Or.inl ⟨by rfl, ?_⟩) hHeld ?_ ?_
       rotate_left
       ·rintro w' ⟨s0, s1, s2, s3, s4⟩
        go_simp
        with_reducible rfl
       rotate_left
       ·simp only [Act.put, sI_, s0_, sS_, i64_w, i32_w]
        rfl
       refine take_ (i := 10) (N := some 52) (v := ?_) (a' := ?_) #[y_, y_, y_, y_, y_, y_, y_, y_, y_, y_, y_, n_, n_, n_, n_] rfl rfl (take_ofW HT_.out HW_.out (by kernel_rfl)) (fun _ _ _ h => h) (Or.inl ⟨by rfl, ?_⟩) hHeld ?_ ?_
       rotate_left
       ·rintro w' ⟨s0, s1, s2, s3, s4⟩
        go_simp
        with_reducible rfl
       rotate_left
       ·simp only [Act.put, sI_, s0_, sS_, i64_w, i32_w]
        rfl
       refine pure_ (i := 11) (N := some 53) (v := ?_) (a' := ?_) #[y_, y_, y_, y_, y_, y_, y_, y_, y_, y_, y_, y_, n_, n_, n_] rfl rfl (any_of HT_.out (by kernel_rfl)) (fun _ _ _ h => h) (Or.inl ⟨by rfl, ?_⟩) ?_ ?_
       rotate_left
       ·intro w'
        go_simp
        with_reducible rfl
       rotate_left
       ·simp only [Act.put, sI_, s0_, sS_, i64_w, i32_w]
        rfl
       refine join_ (σ := Nat) 1 #[y_, y_, y_, y_, y_, y_, y_, y_, y_, y_, y_, y_, y_, y_, n_] (fun s_ => [(54, .agg #[.int .i64 t211, .int .i64 t212]), (12, .pointer (some ⟨s_, 0, none⟩))]) (fun s_ w' => (w'.cell? (ad209.add ((a2).toNat * 2)) = some (.int .i64 ((rd_T39 l1 a2).f0)) ∧ w'.cell? ⟨(ad209.add ((a2).toNat * 2)).block, (ad209.add ((a2).toNat * 2)).off + 1, none⟩ = some (.int .i64 ((rd_T39 l1 a2).f1)) ∧ w'.cell? (ad210.add ((a2).toNat * 3)) = some (.int .i64 ((rd_T44 l0 a2).f0)) ∧ w'.cell? ⟨(ad210.add ((a2).toNat * 3)).block, (ad210.add ((a2).toNat * 3)).off + 1, none⟩ = some (.int .i64 ((rd_T44 l0 a2).f1)) ∧ w'.cell? ⟨(ad210.add ((a2).toNat * 3)).block, (ad210.add ((a2).toNat * 3)).off + 2, none⟩ = some (.int .i64 ((rd_T44 l0 a2).f2))) ∧ (w'.heap[s_]? = some (.cells #[.int .i64 0, .int .i64 0] 39 (0, 0))) ∧ (w.heap.size ≤ s_) ∧ (w.heap.size ≤ s_) ∧ (Below w.heap.size w w')) ?_ ?_
       rotate_left
       ·intro hCont
        refine two_ (i := 12) (j := 13) (Ni := some 54) (Nj := some 12) #[y_, y_, y_, y_, y_, y_, y_, y_, y_, y_, y_, y_, y_, n_, n_] #[y_, y_, y_, y_, y_, y_, y_, y_, y_, y_, y_, y_, n_, y_, n_] rfl rfl rfl rfl (two_of HT_.out (by kernel_rfl)) (by decide) (by decide) (fun K hK => ?_) (fun K hK => ?_)
        ·skip
         refine goes_ Try.func54 (by kernel_rfl) rfl #[.agg #[.int .i64 ((rd_T39 l1 a2).f0), .int .i64 ((rd_T39 l1 a2).f1)], .int .i64 x9_1, .int .i64 (wrap64 (x10_1 + ((rd_T44 l0 a2).f2)))] (by rfl) rfl rfl (by (try simp only [List.map_toArray, List.map_cons, List.map_nil]); first | done | rfl | (simp only [List.length_drop, List.length_take]; rfl)) ?_
         with_reducible refine (cohousingref28_narrow.calls ((rd_T39 l1 a2).f0) ((rd_T39 l1 a2).f1) x9_1 (wrap64 (x10_1 + ((rd_T44 l0 a2).f2))) t211 t212 _ A12.out).mono ?_
         rintro e w14 ⟨rfl, hb⟩
         refine ⟨_, rfl, ?_⟩
         have n0_ := Aside0.mk (below_step (by repeat (first | (with_reducible first | exact HB.out | apply below_alloc | apply pw_below_drewN | apply below_drew1) | exact HB.out)) hb)
         clear HB
         have HB := n0_
         clear n0_
         (try clear hb)
         (try clear hb2)
         (try clear hk)
         (try clear hi)
         refine hK.out _ _ ⟨((HB.out.cell (World.block_lt_of_cell? w _ hw209_0)).trans hw209_0), ((HB.out.cell (World.block_lt_of_cell? w _ hw209_1)).trans hw209_1), ((HB.out.cell (World.block_lt_of_cell? w _ hw210_0)).trans hw210_0), ((HB.out.cell (World.block_lt_of_cell? w _ hw210_1)).trans hw210_1), ((HB.out.cell (World.block_lt_of_cell? w _ hw210_2)).trans hw210_2)⟩ (fun hHeld => ?_)
         clear hK K
         refine norm_ (a' := ?_) ?_ ?_
         rotate_left
         ·show Act.put _ (some 54) _ = _
          simp only [Act.put, sI_, s0_, sS_, i64_w, i32_w]
          rfl
         refine one_ (i := 13) (N := some 12) #[y_, y_, y_, y_, y_, y_, y_, y_, y_, y_, y_, y_, y_, y_, n_] rfl rfl (one_of HT_.out (by kernel_rfl)) (by decide) (fun K hK => ?_)
         refine box_step ?hg (N := 12) ?hd (cs := #[.int .i64 0, .int .i64 0]) (t := 39) ?hr ?_; (case hd => rfl); (case hg => rfl); (case hr => first | (go_simp; done) | (go_simp; rfl))
         intro gb213 hg w15 hbox hb
         have n0_ := Aside0.mk (below_step (by repeat (first | (with_reducible first | exact HB.out | apply below_alloc | apply pw_below_drewN | apply below_drew1) | exact HB.out)) hb)
         have n1_ := Aside0.mk (hbox)
         have n2_ := Aside0.mk ((by rw [hg]; exact (below_size (by repeat (first | (with_reducible first | exact HB.out | apply below_alloc | apply pw_below_drewN | apply below_drew1) | exact HB.out))) : w.heap.size ≤ gb213))
         have n3_ := Aside0.mk ((by rw [hg]; exact (below_size (by repeat (first | (with_reducible first | exact HB.out | apply below_alloc | apply pw_below_drewN | apply below_drew1) | exact HB.out))) : w.heap.size ≤ gb213))
         clear HB
         have HB := n0_
         have BK213 := n1_
         have GW213 := n2_
         have GE213 := n3_
         clear n0_ n1_ n2_ n3_
         clear hb hbox hg
         refine hK.out _ _ ⟨((HB.out.cell (World.block_lt_of_cell? w _ hw209_0)).trans hw209_0), ((HB.out.cell (World.block_lt_of_cell? w _ hw209_1)).trans hw209_1), ((HB.out.cell (World.block_lt_of_cell? w _ hw210_0)).trans hw210_0), ((HB.out.cell (World.block_lt_of_cell? w _ hw210_1)).trans hw210_1), ((HB.out.cell (World.block_lt_of_cell? w _ hw210_2)).trans hw210_2)⟩ (fun hHeld => ?_)
         clear hK K
         refine norm_ (a' := ?_) ?_ ?_
         rotate_left
         ·show Act.put _ (some 12) _ = _
          simp only [Act.put, sI_, s0_, sS_, i64_w, i32_w]
          rfl
         exact norm_ (by simp only [putAll, Act.put, sI_, s0_, sS_]) (hCont (gb213) _ ⟨hHeld, (by (with_reducible repeat (first | refine blk_drewN ?_ _ | refine blk_drew ?_ | refine blk_alloc ?_ _)); exact BK213.out), GW213.out, GE213.out, (by repeat (first | (with_reducible first | exact HB.out | apply below_alloc | apply pw_below_drewN | apply below_drew1 | refine below_set ?_ GE213.out) | exact HB.out))⟩)
        ·skip
         refine box_step ?hg (N := 12) ?hd (cs := #[.int .i64 0, .int .i64 0]) (t := 39) ?hr ?_; (case hd => rfl); (case hg => rfl); (case hr => first | (go_simp; done) | (go_simp; rfl))
         intro gb213 hg w14 hbox hb
         have n0_ := Aside0.mk (below_step (by repeat (first | (with_reducible first | exact HB.out | apply below_alloc | apply pw_below_drewN | apply below_drew1) | exact HB.out)) hb)
         have n1_ := Aside0.mk (hbox)
         have n2_ := Aside0.mk ((by rw [hg]; exact (below_size (by repeat (first | (with_reducible first | exact HB.out | apply below_alloc | apply pw_below_drewN | apply below_drew1) | exact HB.out))) : w.heap.size ≤ gb213))
         have n3_ := Aside0.mk ((by rw [hg]; exact (below_size (by repeat (first | (with_reducible first | exact HB.out | apply below_alloc | apply pw_below_drewN | apply below_drew1) | exact HB.out))) : w.heap.size ≤ gb213))
         clear HB
         have HB := n0_
         have BK213 := n1_
         have GW213 := n2_
         have GE213 := n3_
         clear n0_ n1_ n2_ n3_
         clear hb hbox hg
         refine hK.out _ _ ⟨((HB.out.cell (World.block_lt_of_cell? w _ hw209_0)).trans hw209_0), ((HB.out.cell (World.block_lt_of_cell? w _ hw209_1)).trans hw209_1), ((HB.out.cell (World.block_lt_of_cell? w _ hw210_0)).trans hw210_0), ((HB.out.cell (World.block_lt_of_cell? w _ hw210_1)).trans hw210_1), ((HB.out.cell (World.block_lt_of_cell? w _ hw210_2)).trans hw210_2)⟩ (fun hHeld => ?_)
         clear hK K
         refine norm_ (a' := ?_) ?_ ?_
         rotate_left
         ·show Act.put _ (some 12) _ = _
          simp only [Act.put, sI_, s0_, sS_, i64_w, i32_w]
          rfl
         refine one_ (i := 12) (N := some 54) #[y_, y_, y_, y_, y_, y_, y_, y_, y_, y_, y_, y_, y_, y_, n_] rfl rfl (one_of HT_.out (by kernel_rfl)) (by decide) (fun K hK => ?_)
         refine goes_ Try.func54 (by kernel_rfl) rfl #[.agg #[.int .i64 ((rd_T39 l1 a2).f0), .int .i64 ((rd_T39 l1 a2).f1)], .int .i64 x9_1, .int .i64 (wrap64 (x10_1 + ((rd_T44 l0 a2).f2)))] (by rfl) rfl rfl (by (try simp only [List.map_toArray, List.map_cons, List.map_nil]); first | done | rfl | (simp only [List.length_drop, List.length_take]; rfl)) ?_
         with_reducible refine (cohousingref28_narrow.calls ((rd_T39 l1 a2).f0) ((rd_T39 l1 a2).f1) x9_1 (wrap64 (x10_1 + ((rd_T44 l0 a2).f2))) t211 t212 _ A12.out).mono ?_
         rintro e w15 ⟨rfl, hb⟩
         refine ⟨_, rfl, ?_⟩
         have n0_ := Aside0.mk (blk_below (g := gb213) (o := .cells #[.int .i64 0, .int .i64 0] 39 (0, 0)) (by (with_reducible repeat (first | refine blk_drewN ?_ _ | refine blk_drew ?_ | refine blk_alloc ?_ _)); exact BK213.out) hb)
         have n1_ := Aside0.mk (below_step (by repeat (first | (with_reducible first | exact HB.out | apply below_alloc | apply pw_below_drewN | apply below_drew1 | refine below_set ?_ GE213.out) | exact HB.out)) hb)
         clear BK213
         clear HB
         have BK213 := n0_
         have HB := n1_
         clear n0_ n1_
         (try clear hb)
         (try clear hb2)
         (try clear hk)
         (try clear hi)
         refine hK.out _ _ ⟨((HB.out.cell (World.block_lt_of_cell? w _ hw209_0)).trans hw209_0), ((HB.out.cell (World.block_lt_of_cell? w _ hw209_1)).trans hw209_1), ((HB.out.cell (World.block_lt_of_cell? w _ hw210_0)).trans hw210_0), ((HB.out.cell (World.block_lt_of_cell? w _ hw210_1)).trans hw210_1), ((HB.out.cell (World.block_lt_of_cell? w _ hw210_2)).trans hw210_2)⟩ (fun hHeld => ?_)
         clear hK K
         refine norm_ (a' := ?_) ?_ ?_
         rotate_left
         ·show Act.put _ (some 54) _ = _
          simp only [Act.put, sI_, s0_, sS_, i64_w, i32_w]
          rfl
         exact norm_ (by simp only [putAll, Act.put, sI_, s0_, sS_]) (hCont (gb213) _ ⟨hHeld, (by (with_reducible repeat (first | refine blk_drewN ?_ _ | refine blk_drew ?_ | refine blk_alloc ?_ _)); exact BK213.out), GW213.out, GE213.out, (by repeat (first | (with_reducible first | exact HB.out | apply below_alloc | apply pw_below_drewN | apply below_drew1 | refine below_set ?_ GE213.out) | exact HB.out))⟩)
       rintro gb213 w16 ⟨hS_, h0_, h1_, h2_, h3_⟩
       have n0_ : Aside0 (w16.heap[gb213]? = some (.cells #[.int .i64 0, .int .i64 0] 39 (0, 0))) := ⟨h0_⟩
       have n1_ : Aside0 (w.heap.size ≤ gb213) := ⟨h1_⟩
       have n2_ : Aside0 (w.heap.size ≤ gb213) := ⟨h2_⟩
       have n3_ : Aside0 (Below w.heap.size w w16) := ⟨h3_⟩
       clear HB
       clear h0_ h1_ h2_ h3_
       have BK213 := n0_
       have GW213 := n1_
       have GE213 := n2_
       have HB := n3_
       clear n0_ n1_ n2_ n3_
       have hHeld : w16.cell? (ad209.add ((a2).toNat * 2)) = some (.int .i64 ((rd_T39 l1 a2).f0)) ∧ w16.cell? ⟨(ad209.add ((a2).toNat * 2)).block, (ad209.add ((a2).toNat * 2)).off + 1, none⟩ = some (.int .i64 ((rd_T39 l1 a2).f1)) ∧ w16.cell? (ad210.add ((a2).toNat * 3)) = some (.int .i64 ((rd_T44 l0 a2).f0)) ∧ w16.cell? ⟨(ad210.add ((a2).toNat * 3)).block, (ad210.add ((a2).toNat * 3)).off + 1, none⟩ = some (.int .i64 ((rd_T44 l0 a2).f1)) ∧ w16.cell? ⟨(ad210.add ((a2).toNat * 3)).block, (ad210.add ((a2).toNat * 3)).off + 2, none⟩ = some (.int .i64 ((rd_T44 l0 a2).f2)) := hS_
       refine norm_ (a' := ?_) ?_ ?_
       rotate_left
       ·simp only [putAll, Act.put, sI_, s0_, sS_]
        rfl
       refine one_ (i := 14) (N := none) #[y_, y_, y_, y_, y_, y_, y_, y_, y_, y_, y_, y_, y_, y_, y_] rfl rfl (one_of HT_.out (by kernel_rfl)) (by decide) (fun K hK => ?_)
       have hs17 : w16.cell? ⟨gb213, 0, none⟩ = some (.int .i64 0) := (blk_cell BK213.out 0).trans rfl
       have hfs17 := blk_frozen BK213.out 0
       have hs18 : w16.cell? ⟨gb213, 1, none⟩ = some (.int .i64 0) := (blk_cell BK213.out 1).trans rfl
       have hfs18 := blk_frozen BK213.out 1
       refine skip_ (w1 := ?_) (by rfl) rfl ?_ ?_
       rotate_left
       ·go_simp
        rfl
       refine hK.out _ _ ⟨((cell_far (p := ⟨gb213, _, none⟩) (by first | exact Nat.ne_of_lt (Nat.lt_of_lt_of_le (by have := World.block_lt_of_cell? _ _ hw209_0; first | rwa [add_block] at this | exact this) GW213.out) | (rw [add_block]; exact Nat.ne_of_lt (Nat.lt_of_lt_of_le (by have := World.block_lt_of_cell? _ _ hw209_0; first | rwa [add_block] at this | exact this) GW213.out)) | (show (Addr.add _ _).block ≠ _; rw [add_block]; exact Nat.ne_of_lt (Nat.lt_of_lt_of_le (by have := World.block_lt_of_cell? _ _ hw209_0; first | rwa [add_block] at this | exact this) GW213.out)) | (dsimp only; exact Nat.ne_of_lt (Nat.lt_of_lt_of_le (by have := World.block_lt_of_cell? _ _ hw209_0; first | rwa [add_block] at this | exact this) GW213.out))) _).trans (((cell_far (p := ⟨gb213, _, none⟩) (by first | exact Nat.ne_of_lt (Nat.lt_of_lt_of_le (by have := World.block_lt_of_cell? _ _ hw209_0; first | rwa [add_block] at this | exact this) GW213.out) | (rw [add_block]; exact Nat.ne_of_lt (Nat.lt_of_lt_of_le (by have := World.block_lt_of_cell? _ _ hw209_0; first | rwa [add_block] at this | exact this) GW213.out)) | (show (Addr.add _ _).block ≠ _; rw [add_block]; exact Nat.ne_of_lt (Nat.lt_of_lt_of_le (by have := World.block_lt_of_cell? _ _ hw209_0; first | rwa [add_block] at this | exact this) GW213.out)) | (dsimp only; exact Nat.ne_of_lt (Nat.lt_of_lt_of_le (by have := World.block_lt_of_cell? _ _ hw209_0; first | rwa [add_block] at this | exact this) GW213.out))) _).trans (hHeld.1)))), ((cell_far (p := ⟨gb213, _, none⟩) (by first | exact Nat.ne_of_lt (Nat.lt_of_lt_of_le (by have := World.block_lt_of_cell? _ _ hw209_1; first | rwa [add_block] at this | exact this) GW213.out) | (rw [add_block]; exact Nat.ne_of_lt (Nat.lt_of_lt_of_le (by have := World.block_lt_of_cell? _ _ hw209_1; first | rwa [add_block] at this | exact this) GW213.out)) | (show (Addr.add _ _).block ≠ _; rw [add_block]; exact Nat.ne_of_lt (Nat.lt_of_lt_of_le (by have := World.block_lt_of_cell? _ _ hw209_1; first | rwa [add_block] at this | exact this) GW213.out)) | (dsimp only; exact Nat.ne_of_lt (Nat.lt_of_lt_of_le (by have := World.block_lt_of_cell? _ _ hw209_1; first | rwa [add_block] at this | exact this) GW213.out))) _).trans (((cell_far (p := ⟨gb213, _, none⟩) (by first | exact Nat.ne_of_lt (Nat.lt_of_lt_of_le (by have := World.block_lt_of_cell? _ _ hw209_1; first | rwa [add_block] at this | exact this) GW213.out) | (rw [add_block]; exact Nat.ne_of_lt (Nat.lt_of_lt_of_le (by have := World.block_lt_of_cell? _ _ hw209_1; first | rwa [add_block] at this | exact this) GW213.out)) | (show (Addr.add _ _).block ≠ _; rw [add_block]; exact Nat.ne_of_lt (Nat.lt_of_lt_of_le (by have := World.block_lt_of_cell? _ _ hw209_1; first | rwa [add_block] at this | exact this) GW213.out)) | (dsimp only; exact Nat.ne_of_lt (Nat.lt_of_lt_of_le (by have := World.block_lt_of_cell? _ _ hw209_1; first | rwa [add_block] at this | exact this) GW213.out))) _).trans (hHeld.2.1)))), ((cell_far (p := ⟨gb213, _, none⟩) (by first | exact Nat.ne_of_lt (Nat.lt_of_lt_of_le (by have := World.block_lt_of_cell? _ _ hw210_0; first | rwa [add_block] at this | exact this) GW213.out) | (rw [add_block]; exact Nat.ne_of_lt (Nat.lt_of_lt_of_le (by have := World.block_lt_of_cell? _ _ hw210_0; first | rwa [add_block] at this | exact this) GW213.out)) | (show (Addr.add _ _).block ≠ _; rw [add_block]; exact Nat.ne_of_lt (Nat.lt_of_lt_of_le (by have := World.block_lt_of_cell? _ _ hw210_0; first | rwa [add_block] at this | exact this) GW213.out)) | (dsimp only; exact Nat.ne_of_lt (Nat.lt_of_lt_of_le (by have := World.block_lt_of_cell? _ _ hw210_0; first | rwa [add_block] at this | exact this) GW213.out))) _).trans (((cell_far (p := ⟨gb213, _, none⟩) (by first | exact Nat.ne_of_lt (Nat.lt_of_lt_of_le (by have := World.block_lt_of_cell? _ _ hw210_0; first | rwa [add_block] at this | exact this) GW213.out) | (rw [add_block]; exact Nat.ne_of_lt (Nat.lt_of_lt_of_le (by have := World.block_lt_of_cell? _ _ hw210_0; first | rwa [add_block] at this | exact this) GW213.out)) | (show (Addr.add _ _).block ≠ _; rw [add_block]; exact Nat.ne_of_lt (Nat.lt_of_lt_of_le (by have := World.block_lt_of_cell? _ _ hw210_0; first | rwa [add_block] at this | exact this) GW213.out)) | (dsimp only; exact Nat.ne_of_lt (Nat.lt_of_lt_of_le (by have := World.block_lt_of_cell? _ _ hw210_0; first | rwa [add_block] at this | exact this) GW213.out))) _).trans (hHeld.2.2.1)))), ((cell_far (p := ⟨gb213, _, none⟩) (by first | exact Nat.ne_of_lt (Nat.lt_of_lt_of_le (by have := World.block_lt_of_cell? _ _ hw210_1; first | rwa [add_block] at this | exact this) GW213.out) | (rw [add_block]; exact Nat.ne_of_lt (Nat.lt_of_lt_of_le (by have := World.block_lt_of_cell? _ _ hw210_1; first | rwa [add_block] at this | exact this) GW213.out)) | (show (Addr.add _ _).block ≠ _; rw [add_block]; exact Nat.ne_of_lt (Nat.lt_of_lt_of_le (by have := World.block_lt_of_cell? _ _ hw210_1; first | rwa [add_block] at this | exact this) GW213.out)) | (dsimp only; exact Nat.ne_of_lt (Nat.lt_of_lt_of_le (by have := World.block_lt_of_cell? _ _ hw210_1; first | rwa [add_block] at this | exact this) GW213.out))) _).trans (((cell_far (p := ⟨gb213, _, none⟩) (by first | exact Nat.ne_of_lt (Nat.lt_of_lt_of_le (by have := World.block_lt_of_cell? _ _ hw210_1; first | rwa [add_block] at this | exact this) GW213.out) | (rw [add_block]; exact Nat.ne_of_lt (Nat.lt_of_lt_of_le (by have := World.block_lt_of_cell? _ _ hw210_1; first | rwa [add_block] at this | exact this) GW213.out)) | (show (Addr.add _ _).block ≠ _; rw [add_block]; exact Nat.ne_of_lt (Nat.lt_of_lt_of_le (by have := World.block_lt_of_cell? _ _ hw210_1; first | rwa [add_block] at this | exact this) GW213.out)) | (dsimp only; exact Nat.ne_of_lt (Nat.lt_of_lt_of_le (by have := World.block_lt_of_cell? _ _ hw210_1; first | rwa [add_block] at this | exact this) GW213.out))) _).trans (hHeld.2.2.2.1)))), ((cell_far (p := ⟨gb213, _, none⟩) (by first | exact Nat.ne_of_lt (Nat.lt_of_lt_of_le (by have := World.block_lt_of_cell? _ _ hw210_2; first | rwa [add_block] at this | exact this) GW213.out) | (rw [add_block]; exact Nat.ne_of_lt (Nat.lt_of_lt_of_le (by have := World.block_lt_of_cell? _ _ hw210_2; first | rwa [add_block] at this | exact this) GW213.out)) | (show (Addr.add _ _).block ≠ _; rw [add_block]; exact Nat.ne_of_lt (Nat.lt_of_lt_of_le (by have := World.block_lt_of_cell? _ _ hw210_2; first | rwa [add_block] at this | exact this) GW213.out)) | (dsimp only; exact Nat.ne_of_lt (Nat.lt_of_lt_of_le (by have := World.block_lt_of_cell? _ _ hw210_2; first | rwa [add_block] at this | exact this) GW213.out))) _).trans (((cell_far (p := ⟨gb213, _, none⟩) (by first | exact Nat.ne_of_lt (Nat.lt_of_lt_of_le (by have := World.block_lt_of_cell? _ _ hw210_2; first | rwa [add_block] at this | exact this) GW213.out) | (rw [add_block]; exact Nat.ne_of_lt (Nat.lt_of_lt_of_le (by have := World.block_lt_of_cell? _ _ hw210_2; first | rwa [add_block] at this | exact this) GW213.out)) | (show (Addr.add _ _).block ≠ _; rw [add_block]; exact Nat.ne_of_lt (Nat.lt_of_lt_of_le (by have := World.block_lt_of_cell? _ _ hw210_2; first | rwa [add_block] at this | exact this) GW213.out)) | (dsimp only; exact Nat.ne_of_lt (Nat.lt_of_lt_of_le (by have := World.block_lt_of_cell? _ _ hw210_2; first | rwa [add_block] at this | exact this) GW213.out))) _).trans (hHeld.2.2.2.2))))⟩ (fun hHeld => ?_)
       clear hK K
       refine done_ (done_of HT_.out (by kernel_rfl)) ?_
       try go_wp2
       go_loopg [13, 14] k1 (fun kq v13 v14 w' => ∃ (x13_2 : List (S39)) (x14_2 : Int), v14 = .int .i64 x14_2 ∧ Aside0 (cohousingref28_equation.l1 kq l0 l1 a2 x9_1 x10_1 x13_2 x14_2 t211 t212 = some r) ∧ Aside0 (kq ≤ k1) ∧ Aside0 (Kd.R k39 39 w' w.heap.size (fun k_ => k_ ≠ gb213) v13 x13_2) ∧ Aside0 (w'.heap[gb213]? = some (.cells #[.int .i64 t211, .int .i64 t212] 39 (0, 0))) ∧ Aside0 (Below w.heap.size w w'))
       case atStart => exact ⟨(([] : List (S39))), (0), (by first | rfl | (simp; done) | (simp [*]; done)), H', ⟨Nat.le_refl _⟩, ⟨by first | exact Kd.R_nil _ _ _ _ _ | exact Kd.N_nil _ _ _ _ _ | exact Kd.V_nil _ _ _ _ _ | exact Kd.Q_nil _ _ _ _ _ | exact Kd.S_nil _ _ _ _ _⟩, ⟨by (with_reducible repeat (first | refine blk_drewN ?_ _ | refine blk_drew ?_ | refine blk_alloc ?_ _)); refine blk_put (cs := #[.int .i64 t211, .int .i64 0]) ?_ 1 _ rfl; (with_reducible repeat (first | refine blk_drewN ?_ _ | refine blk_drew ?_ | refine blk_alloc ?_ _)); refine blk_put (cs := #[.int .i64 0, .int .i64 0]) ?_ 0 _ rfl; (with_reducible repeat (first | refine blk_drewN ?_ _ | refine blk_drew ?_ | refine blk_alloc ?_ _)); exact BK213.out⟩, ⟨by repeat (first | (with_reducible first | exact HB.out | apply below_alloc | apply pw_below_drewN | apply below_drew1 | refine below_set ?_ GE213.out) | exact HB.out)⟩⟩
       case round =>
        clear H'
        try clear c1
        try clear p2
        try clear q2
        try clear hx2
        try clear c3
        try clear c5
        try clear c5b0
        try clear c6
        try clear c6b0
        try clear p6
        try clear c7
        try clear c7b0
        try clear c8
        try clear c8b0
        try clear c9
        try clear c9b0
        try clear c10
        try clear c10b0
        try clear c11
        try clear c11b0
        try clear hx205_0
        try clear hx206_0
        try clear hx206_1
        try clear hx207_0
        try clear hx208_0
        try clear hx208_1
        try clear hx209_0
        try clear hx209_1
        try clear hx210_0
        try clear hx210_1
        try clear hx210_2
        try clear p2
        try clear p205
        try clear p206
        try clear p207
        try clear p208
        try clear p209
        try clear p210
        try clear q205
        try clear q206
        try clear q207
        try clear q208
        try clear q209
        try clear q210
        obtain ⟨x13_2, x14_2, rfl, HA, HK2, HO_13, BK213, HB⟩ := hrel
        cases gk with
        | zero => exact absurd HA.out (by simp [cohousingref28_equation.l1])
        | succ k2 =>
         have H := HA.out
         clear HA
         simp only [cohousingref28_equation.l1] at H
         by_cases c19 : x14_2 < (l1.length : Int)
         ·rw [if_pos c19] at H
          have c19b0 : decide (x14_2 < (l1.length : Int)) = true := decide_eq_true c19
          clear c19
          by_cases c20 : 0 ≤ x14_2
          ·rw [if_pos c20] at H
           have c20b0 : decide (0 ≤ x14_2) = true := decide_eq_true c20
           clear c20
           by_cases c21 : x14_2 = a2
           ·rw [if_pos c21] at H
            have c21b0 : (x14_2 == a2) = true := beq_iff_eq.mpr c21
            have c21b1 : (x14_2 != a2) = false := bne_eq_false_iff_eq.mpr c21
            clear c21
            by_cases c22 : x14_2 > a2
            ·rw [if_pos c22] at H
             have c22b0 : decide (a2 < x14_2) = true := decide_eq_true c22
             clear c22
             by_cases c23 : x14_2 < (l0.length : Int)
             ·rw [if_pos c23] at H
              have c23b0 : decide (x14_2 < (l0.length : Int)) = true := decide_eq_true c23
              clear c23
              by_cases c24 : 0 ≤ a2
              ·rw [if_pos c24] at H
               have c24b0 : decide (0 ≤ a2) = true := decide_eq_true c24
               clear c24
               by_cases c25 : a2 < (l0.length : Int)
               ·rw [if_pos c25] at H
                have c25b0 : decide (a2 < (l0.length : Int)) = true := decide_eq_true c25
                clear c25
                by_cases c26 : ((rd_T44 l0 x14_2).f1) = ((rd_T44 l0 a2).f0)
                ·rw [if_pos c26] at H
                 have c26b0 : (((rd_T44 l0 x14_2).f1) == ((rd_T44 l0 a2).f0)) = true := beq_iff_eq.mpr c26
                 have c26b1 : (((rd_T44 l0 x14_2).f1) != ((rd_T44 l0 a2).f0)) = false := bne_eq_false_iff_eq.mpr c26
                 clear c26
                 replace H := Option.bind_eq_some_iff.mp H
                 obtain ⟨⟨t219, t220⟩, A270, H⟩ := H
                 replace H : (if x13_2.length < 8796093022208 then (cohousingref28_equation.l1 k2 l0 l1 a2 x9_1 x10_1 (x13_2 ++ [(⟨t219, t220⟩ : S39)]) (wrap64 (x14_2 + 1)) t211 t212) else (none)) = some r := H
                 have A27 := Aside0.mk A270
                 clear A270
                 by_cases c28 : x13_2.length < 8796093022208
                 ·rw [if_pos c28] at H
                  have LMc28 := Aside0.mk c28
                  clear c28
                  obtain ⟨y221, hy221⟩ : ∃ y_ : List (S39), y_ = (x13_2 ++ [(⟨t219, t220⟩ : S39)]) := ⟨_, rfl⟩
                  replace H : (cohousingref28_equation.l1 k2 l0 l1 a2 x9_1 x10_1 y221 (wrap64 (x14_2 + 1)) t211 t212) = some r := by first | (rw [hy221]; with_reducible exact H) | (have H2_ := (Option.bind_some _ _).symm.trans H; rw [hy221]; with_reducible exact H2_) | (have H2_ := (Option.bind_some _ _).symm.trans H; with_reducible exact H2_) | with_reducible exact H | (rw [hy221]; exact H) | exact H
                  have Ny221 := Aside0.mk hy221
                  clear hy221
                  have H' := Aside0.mk H
                  clear H
                  have p214 : 0 ≤ (x14_2 : Int) := of_decide_eq_true (by first | (with_reducible assumption) | assumption)
                  have q214 : x14_2 < (l1.length : Int) := of_decide_eq_true (by first | (with_reducible assumption) | assumption)
                  obtain ⟨ad214, e214, hx214_0, hx214_1⟩ := at_T39 HR1.out x14_2 p214 q214
                  obtain rfl : ad209 = ad214 := (by injection e214)
                  replace hx214_0 := (HB.out.cell (World.block_lt_of_cell? w _ hx214_0)).trans hx214_0
                  replace hx214_1 := (HB.out.cell (World.block_lt_of_cell? w _ hx214_1)).trans hx214_1
                  replace p214 := eq_true p214
                  replace q214 := eq_true q214
                  try go_wp2_with (first | ((with_reducible refine gate_dst (N := 15) rfl ?_); refine box_event ?hg (N := 15) ?hd (cs := #[.int .i64 0, .int .i64 0]) (t := 39) ?hr ?_; (case hd => rfl); (case hg => rfl); (case hr => first | (go_simp; done) | (go_simp; rfl)); intro gb215 hg w29 hbox hb; have n0_ := Aside0.mk (Kd.R_below (Kd.R_elderB (by (with_reducible repeat (first | apply Kd.R_alloc | apply Kd.R_drewN | apply Kd.R_drew)); exact HO_13.out) gb215 (Nat.le_of_eq hg.symm)) hb); have n1_ := Aside0.mk (blk_below (g := gb213) (o := .cells #[.int .i64 t211, .int .i64 t212] 39 (0, 0)) (by (with_reducible repeat (first | refine blk_drewN ?_ _ | refine blk_drew ?_ | refine blk_alloc ?_ _)); exact BK213.out) hb); have n2_ := Aside0.mk (below_step (by repeat (first | (with_reducible first | exact HB.out | apply below_alloc | apply pw_below_drewN | apply below_drew1 | refine below_set ?_ GE213.out) | exact HB.out)) hb); have n3_ := Aside0.mk (hbox); have n4_ := Aside0.mk ((by rw [hg]; exact (below_size (by repeat (first | (with_reducible first | exact HB.out | apply below_alloc | apply pw_below_drewN | apply below_drew1 | refine below_set ?_ GE213.out) | exact HB.out))) : w.heap.size ≤ gb215)); have n5_ := Aside0.mk ((by rw [hg]; exact (below_size (by repeat (first | (with_reducible first | exact HB.out | apply below_alloc | apply pw_below_drewN | apply below_drew1 | refine below_set ?_ GE213.out) | exact HB.out))) : w.heap.size ≤ gb215)); have n6_ := Aside0.mk ((by rw [hg]; exact Nat.ne_of_lt (blk_lt (g := gb213) (o := .cells #[.int .i64 t211, .int .i64 t212] 39 (0, 0)) (by (with_reducible repeat (first | refine blk_drewN ?_ _ | refine blk_drew ?_ | refine blk_alloc ?_ _)); exact BK213.out)) : gb213 ≠ gb215)); have n7_ := Aside0.mk ((by rw [hg]; exact Nat.ne_of_gt (blk_lt (g := gb213) (o := .cells #[.int .i64 t211, .int .i64 t212] 39 (0, 0)) (by (with_reducible repeat (first | refine blk_drewN ?_ _ | refine blk_drew ?_ | refine blk_alloc ?_ _)); exact BK213.out)) : gb215 ≠ gb213)); clear HO_13; clear BK213; clear HB; have HO_13 := n0_; have BK213 := n1_; have HB := n2_; have BK215 := n3_; have GW215 := n4_; have GE215 := n5_; have NB213_215 := n6_; have NB215_213 := n7_; clear n0_ n1_ n2_ n3_ n4_ n5_ n6_ n7_; clear hb hbox hg; have hnb30 := NB215_213.out; have hnc30 := NB213_215.out; have hcz31_0 : w29.cell? ⟨gb215, 0, none⟩ = some (.int .i64 0) := (blk_cell BK215.out 0).trans rfl; have hcz31_1 : w29.cell? ⟨gb215, 1, none⟩ = some (.int .i64 0) := (blk_cell BK215.out 1).trans rfl; have hfz31_0 := blk_frozen BK215.out 0; have hfz31_1 := blk_frozen BK215.out 1; have hcz32_0 : w29.cell? ⟨gb213, 0, none⟩ = some (.int .i64 t211) := (blk_cell BK213.out 0).trans rfl; have hcz32_1 : w29.cell? ⟨gb213, 1, none⟩ = some (.int .i64 t212) := (blk_cell BK213.out 1).trans rfl; have hfz32_0 := blk_frozen BK213.out 0; have hfz32_1 := blk_frozen BK213.out 1))
                  have n0_ : Aside0 (Kd.R k39 39 ((((w29.setCell ⟨gb215, 0, none⟩ (.int .i64 ((rd_T39 l1 x14_2).f0))).setCell ⟨gb215, 1, none⟩ (.int .i64 ((rd_T39 l1 x14_2).f1))).setCell ⟨gb215, 0, none⟩ (.int .i64 t211)).setCell ⟨gb215, 1, none⟩ (.int .i64 t212)) w.heap.size (fun k_ => k_ ≠ gb213 ∧ k_ ≠ gb215) u13 x13_2) := ⟨by (with_reducible repeat (first | apply Kd.R_alloc | apply Kd.R_drewN | apply Kd.R_drew)); exact Kd.R_mono (Kd.R_far (p := ⟨gb215, 1, none⟩) (Kd.R_far (p := ⟨gb215, 0, none⟩) (Kd.R_far (p := ⟨gb215, 1, none⟩) (Kd.R_far (p := ⟨gb215, 0, none⟩) (Kd.R_mono HO_13.out (fun k_ hk => (⟨hk, hk.2⟩ : _ ∧ k_ ≠ gb215))) (fun _ hk => hk.2) (.int .i64 ((rd_T39 l1 x14_2).f0))) (fun _ hk => hk.2) (.int .i64 ((rd_T39 l1 x14_2).f1))) (fun _ hk => hk.2) (.int .i64 t211)) (fun _ hk => hk.2) (.int .i64 t212)) (fun _ hk => ⟨hk.1.1, hk.1.2⟩)⟩
                  have n1_ : Aside0 (((((w29.setCell ⟨gb215, 0, none⟩ (.int .i64 ((rd_T39 l1 x14_2).f0))).setCell ⟨gb215, 1, none⟩ (.int .i64 ((rd_T39 l1 x14_2).f1))).setCell ⟨gb215, 0, none⟩ (.int .i64 t211)).setCell ⟨gb215, 1, none⟩ (.int .i64 t212)).heap[gb213]? = some (.cells #[.int .i64 t211, .int .i64 t212] 39 (0, 0))) := ⟨by (with_reducible repeat (first | refine blk_drewN ?_ _ | refine blk_drew ?_ | refine blk_alloc ?_ _)); refine blk_far ?_ NB213_215.out _; (with_reducible repeat (first | refine blk_drewN ?_ _ | refine blk_drew ?_ | refine blk_alloc ?_ _)); refine blk_far ?_ NB213_215.out _; (with_reducible repeat (first | refine blk_drewN ?_ _ | refine blk_drew ?_ | refine blk_alloc ?_ _)); refine blk_far ?_ NB213_215.out _; (with_reducible repeat (first | refine blk_drewN ?_ _ | refine blk_drew ?_ | refine blk_alloc ?_ _)); refine blk_far ?_ NB213_215.out _; (with_reducible repeat (first | refine blk_drewN ?_ _ | refine blk_drew ?_ | refine blk_alloc ?_ _)); exact BK213.out⟩
                  have n2_ : Aside0 (((((w29.setCell ⟨gb215, 0, none⟩ (.int .i64 ((rd_T39 l1 x14_2).f0))).setCell ⟨gb215, 1, none⟩ (.int .i64 ((rd_T39 l1 x14_2).f1))).setCell ⟨gb215, 0, none⟩ (.int .i64 t211)).setCell ⟨gb215, 1, none⟩ (.int .i64 t212)).heap[gb215]? = some (.cells #[.int .i64 t211, .int .i64 t212] 39 (0, 0))) := ⟨by (with_reducible repeat (first | refine blk_drewN ?_ _ | refine blk_drew ?_ | refine blk_alloc ?_ _)); refine blk_put (cs := #[.int .i64 t211, .int .i64 ((rd_T39 l1 x14_2).f1)]) ?_ 1 _ rfl; (with_reducible repeat (first | refine blk_drewN ?_ _ | refine blk_drew ?_ | refine blk_alloc ?_ _)); refine blk_put (cs := #[.int .i64 ((rd_T39 l1 x14_2).f0), .int .i64 ((rd_T39 l1 x14_2).f1)]) ?_ 0 _ rfl; (with_reducible repeat (first | refine blk_drewN ?_ _ | refine blk_drew ?_ | refine blk_alloc ?_ _)); refine blk_put (cs := #[.int .i64 ((rd_T39 l1 x14_2).f0), .int .i64 0]) ?_ 1 _ rfl; (with_reducible repeat (first | refine blk_drewN ?_ _ | refine blk_drew ?_ | refine blk_alloc ?_ _)); refine blk_put (cs := #[.int .i64 0, .int .i64 0]) ?_ 0 _ rfl; (with_reducible repeat (first | refine blk_drewN ?_ _ | refine blk_drew ?_ | refine blk_alloc ?_ _)); exact BK215.out⟩
                  have n3_ : Aside0 (Below w.heap.size w ((((w29.setCell ⟨gb215, 0, none⟩ (.int .i64 ((rd_T39 l1 x14_2).f0))).setCell ⟨gb215, 1, none⟩ (.int .i64 ((rd_T39 l1 x14_2).f1))).setCell ⟨gb215, 0, none⟩ (.int .i64 t211)).setCell ⟨gb215, 1, none⟩ (.int .i64 t212))) := ⟨by repeat (first | (with_reducible first | exact HB.out | apply below_alloc | apply pw_below_drewN | apply below_drew1 | refine below_set ?_ GE213.out | refine below_set ?_ GE215.out) | exact HB.out)⟩
                  (try clear HO_13)
                  (try clear BK213)
                  (try clear BK215)
                  (try clear HB)
                  generalize ((((w29.setCell ⟨gb215, 0, none⟩ (.int .i64 ((rd_T39 l1 x14_2).f0))).setCell ⟨gb215, 1, none⟩ (.int .i64 ((rd_T39 l1 x14_2).f1))).setCell ⟨gb215, 0, none⟩ (.int .i64 t211)).setCell ⟨gb215, 1, none⟩ (.int .i64 t212)) = w33 at n0_ n1_ n2_ n3_ ⊢
                  have HO_13 := n0_
                  have BK213 := n1_
                  have BK215 := n2_
                  have HB := n3_
                  clear n0_ n1_ n2_ n3_
                  have n0_ := Aside0.mk (Kd.R_drew HO_13.out)
                  have n1_ := Aside0.mk (blk_drew BK213.out)
                  have n2_ := Aside0.mk (blk_drew BK215.out)
                  have n3_ := Aside0.mk (below_drew1 HB.out)
                  clear HO_13
                  clear BK213
                  clear BK215
                  clear HB
                  have HO_13 := n0_
                  have BK213 := n1_
                  have BK215 := n2_
                  have HB := n3_
                  clear n0_ n1_ n2_ n3_
                  have p216 : 0 ≤ (x14_2 : Int) := of_decide_eq_true (by first | (with_reducible assumption) | assumption)
                  have q216 : x14_2 < (l0.length : Int) := of_decide_eq_true (by first | (with_reducible assumption) | assumption)
                  obtain ⟨ad216, e216, hx216_0, hx216_1, hx216_2⟩ := at_T44 HR0.out x14_2 p216 q216
                  have hw216_2 := hx216_2
                  have hw216_1 := hx216_1
                  have hw216_0 := hx216_0
                  obtain rfl : ad210 = ad216 := (by injection e216)
                  replace hx216_0 := (HB.out.cell (World.block_lt_of_cell? w _ hx216_0)).trans hx216_0
                  replace hx216_1 := (HB.out.cell (World.block_lt_of_cell? w _ hx216_1)).trans hx216_1
                  replace hx216_2 := (HB.out.cell (World.block_lt_of_cell? w _ hx216_2)).trans hx216_2
                  replace p216 := eq_true p216
                  replace q216 := eq_true q216
                  have p217 : 0 ≤ (a2 : Int) := of_decide_eq_true (by first | (with_reducible assumption) | assumption)
                  have q217 : a2 < (l0.length : Int) := of_decide_eq_true (by first | (with_reducible assumption) | assumption)
                  obtain ⟨ad217, e217, hx217_0, hx217_1, hx217_2⟩ := at_T44 HR0.out a2 p217 q217
                  have hw217_2 := hx217_2
                  have hw217_1 := hx217_1
                  have hw217_0 := hx217_0
                  obtain rfl : ad210 = ad217 := (by injection e217)
                  replace hx217_0 := (HB.out.cell (World.block_lt_of_cell? w _ hx217_0)).trans hx217_0
                  replace hx217_1 := (HB.out.cell (World.block_lt_of_cell? w _ hx217_1)).trans hx217_1
                  replace hx217_2 := (HB.out.cell (World.block_lt_of_cell? w _ hx217_2)).trans hx217_2
                  replace p217 := eq_true p217
                  replace q217 := eq_true q217
                  refine start_ (n := 16) (S := fun w' => w'.cell? (ad210.add ((x14_2).toNat * 3)) = some (.int .i64 ((rd_T44 l0 x14_2).f0)) ∧ w'.cell? ⟨(ad210.add ((x14_2).toNat * 3)).block, (ad210.add ((x14_2).toNat * 3)).off + 1, none⟩ = some (.int .i64 ((rd_T44 l0 x14_2).f1)) ∧ w'.cell? ⟨(ad210.add ((x14_2).toNat * 3)).block, (ad210.add ((x14_2).toNat * 3)).off + 2, none⟩ = some (.int .i64 ((rd_T44 l0 x14_2).f2)) ∧ w'.cell? (ad210.add ((a2).toNat * 3)) = some (.int .i64 ((rd_T44 l0 a2).f0)) ∧ w'.cell? ⟨(ad210.add ((a2).toNat * 3)).block, (ad210.add ((a2).toNat * 3)).off + 1, none⟩ = some (.int .i64 ((rd_T44 l0 a2).f1)) ∧ w'.cell? ⟨(ad210.add ((a2).toNat * 3)).block, (ad210.add ((a2).toNat * 3)).off + 2, none⟩ = some (.int .i64 ((rd_T44 l0 a2).f2))) (ds := []) #[n_, n_, n_, n_, n_, n_, n_, n_, n_, n_, n_, n_, n_, n_, n_, n_] (by kernel_rfl) rfl rfl ⟨((HB.out.cell (World.block_lt_of_cell? w _ hw216_0)).trans hw216_0), ((HB.out.cell (World.block_lt_of_cell? w _ hw216_1)).trans hw216_1), ((HB.out.cell (World.block_lt_of_cell? w _ hw216_2)).trans hw216_2), ((HB.out.cell (World.block_lt_of_cell? w _ hw217_0)).trans hw217_0), ((HB.out.cell (World.block_lt_of_cell? w _ hw217_1)).trans hw217_1), ((HB.out.cell (World.block_lt_of_cell? w _ hw217_2)).trans hw217_2)⟩ (fun hHeld => ?_); refine with_tabW cohousingref28_equation.tab16 cohousingref28_equation.bits16 (fun HT_ HW_ => ?_)
                  generalize w33.drew = w34 at HO_13 BK213 BK215 HB hx216_0 hx216_1 hx216_2 hx217_0 hx217_1 hx217_2 hHeld ⊢
                  refine pure_ (i := 0) (N := some 69) (v := ?_) (a' := ?_) #[y_, n_, n_, n_, n_, n_, n_, n_, n_, n_, n_, n_, n_, n_, n_, n_] rfl rfl (any_of HT_.out (by kernel_rfl)) (fun _ _ _ h => h) (Or.inl ⟨by rfl, ?_⟩) ?_ ?_
                  rotate_left
                  ·intro w'
                   go_simp
                   with_reducible rfl
                  rotate_left
                  ·simp only [Act.put, sI_, s0_, sS_, i64_w, i32_w]
                   rfl
                  refine pure_ (i := 1) (N := some 70) (v := ?_) (a' := ?_) #[y_, y_, n_, n_, n_, n_, n_, n_, n_, n_, n_, n_, n_, n_, n_, n_] rfl rfl (any_of HT_.out (by kernel_rfl)) (fun _ _ _ h => h) (Or.inl ⟨by rfl, ?_⟩) ?_ ?_
                  rotate_left
                  ·intro w'
                   go_simp
                   with_reducible rfl
                  rotate_left
                  ·simp only [Act.put, sI_, s0_, sS_, i64_w, i32_w]
                   rfl
                  refine pure_ (i := 2) (N := some 71) (v := ?_) (a' := ?_) #[y_, y_, y_, n_, n_, n_, n_, n_, n_, n_, n_, n_, n_, n_, n_, n_] rfl rfl (any_of HT_.out (by kernel_rfl)) (fun _ _ _ h => h) (Or.inl ⟨by rfl, ?_⟩) ?_ ?_
                  rotate_left
                  ·intro w'
                   go_simp
                   with_reducible rfl
                  rotate_left
                  ·simp only [Act.put, sI_, s0_, sS_, i64_w, i32_w]
                   rfl
                  refine pure_ (i := 3) (N := some 72) (v := ?_) (a' := ?_) #[y_, y_, y_, y_, n_, n_, n_, n_, n_, n_, n_, n_, n_, n_, n_, n_] rfl rfl (any_of HT_.out (by kernel_rfl)) (fun _ _ _ h => h) (Or.inl ⟨by rfl, ?_⟩) ?_ ?_
                  rotate_left
                  ·intro w'
                   go_simp
                   with_reducible rfl
                  rotate_left
                  ·simp only [Act.put, sI_, s0_, sS_, i64_w, i32_w]
                   rfl
                  refine pure_ (i := 4) (N := some 73) (v := ?_) (a' := ?_) #[y_, y_, y_, y_, y_, n_, n_, n_, n_, n_, n_, n_, n_, n_, n_, n_] rfl rfl (any_of HT_.out (by kernel_rfl)) (fun _ _ _ h => h) (Or.inl ⟨by rfl, ?_⟩) ?_ ?_
                  rotate_left
                  ·intro w'
                   go_simp
                   with_reducible rfl
                  rotate_left
                  ·simp only [Act.put, sI_, s0_, sS_, i64_w, i32_w]
                   rfl
                  refine pure_ (i := 5) (N := some 74) (v := ?_) (a' := ?_) #[y_, y_, y_, y_, y_, y_, n_, n_, n_, n_, n_, n_, n_, n_, n_, n_] rfl rfl (any_of HT_.out (by kernel_rfl)) (fun _ _ _ h => h) (Or.inl ⟨by rfl, ?_⟩) ?_ ?_
                  rotate_left
                  ·intro w'
                   go_simp
                   with_reducible rfl
                  rotate_left
                  ·simp only [Act.put, sI_, s0_, sS_, i64_w, i32_w]
                   rfl
                  refine pure_ (i := 6) (N := some 75) (v := ?_) (a' := ?_) #[y_, y_, y_, y_, y_, y_, y_, n_, n_, n_, n_, n_, n_, n_, n_, n_] rfl rfl (any_of HT_.out (by kernel_rfl)) (fun _ _ _ h => h) (Or.inl ⟨by rfl, ?_⟩) ?_ ?_
                  rotate_left
                  ·intro w'
                   go_simp
                   with_reducible rfl
                  rotate_left
                  ·simp only [Act.put, sI_, s0_, sS_, i64_w, i32_w]
                   rfl
                  refine pure_ (i := 7) (N := some 76) (v := ?_) (a' := ?_) #[y_, y_, y_, y_, y_, y_, y_, y_, n_, n_, n_, n_, n_, n_, n_, n_] rfl rfl (any_of HT_.out (by kernel_rfl)) (fun _ _ _ h => h) (Or.inl ⟨by rfl, ?_⟩) ?_ ?_
                  rotate_left
                  ·intro w'
                   go_simp
                   with_reducible rfl
                  rotate_left
                  ·simp only [Act.put, sI_, s0_, sS_, i64_w, i32_w]
                   rfl
                  refine pure_ (i := 9) (N := some 78) (v := ?_) (a' := ?_) #[y_, y_, y_, y_, y_, y_, y_, y_, n_, y_, n_, n_, n_, n_, n_, n_] rfl rfl (any_of HT_.out (by kernel_rfl)) (fun _ _ _ h => h) (Or.inl ⟨by rfl, ?_⟩) ?_ ?_
                  rotate_left
                  ·intro w'
                   go_simp
                   with_reducible rfl
                  rotate_left
                  ·simp only [Act.put, sI_, s0_, sS_, i64_w, i32_w]
                   rfl
                  refine pure_ (i := 10) (N := some 79) (v := ?_) (a' := ?_) #[y_, y_, y_, y_, y_, y_, y_, y_, n_, y_, y_, n_, n_, n_, n_, n_] rfl rfl (any_of HT_.out (by kernel_rfl)) (fun _ _ _ h => h) (Or.inl ⟨by rfl, ?_⟩) ?_ ?_
                  rotate_left
                  ·intro w'
                   go_simp
                   with_reducible rfl
                  rotate_left
                  ·simp only [Act.put, sI_, s0_, sS_, i64_w, i32_w]
                   rfl
                  refine pure_ (i := 11) (N := some 80) (v := ?_) (a' := ?_) #[y_, y_, y_, y_, y_, y_, y_, y_, n_, y_, y_, y_, n_, n_, n_, n_] rfl rfl (any_of HT_.out (by kernel_rfl)) (fun _ _ _ h => h) (Or.inl ⟨by rfl, ?_⟩) ?_ ?_
                  rotate_left
                  ·intro w'
                   go_simp
                   with_reducible rfl
                  rotate_left
                  ·simp only [Act.put, sI_, s0_, sS_, i64_w, i32_w]
                   rfl
                  refine pure_ (i := 12) (N := some 81) (v := ?_) (a' := ?_) #[y_, y_, y_, y_, y_, y_, y_, y_, n_, y_, y_, y_, y_, n_, n_, n_] rfl rfl (any_of HT_.out (by kernel_rfl)) (fun _ _ _ h => h) (Or.inl ⟨by rfl, ?_⟩) ?_ ?_
                  rotate_left
                  ·intro w'
                   go_simp
                   with_reducible rfl
                  rotate_left
                  ·simp only [Act.put, sI_, s0_, sS_, i64_w, i32_w]
                   rfl
                  refine take_ (i := 8) (N := some 77) (v := ?_) (a' := ?_) #[y_, y_, y_, y_, y_, y_, y_, y_, y_, y_, y_, y_, y_, n_, n_, n_] rfl rfl (take_ofW HT_.out HW_.out (by kernel_rfl)) (fun _ _ _ h => h) (Or.inl ⟨by rfl, ?_⟩) hHeld ?_ ?_
                  rotate_left
                  ·rintro w' ⟨s0, s1, s2, s3, s4, s5⟩
                   go_simp
                   with_reducible rfl
                  rotate_left
                  ·simp only [Act.put, sI_, s0_, sS_, i64_w, i32_w]
                   rfl
                  refine take_ (i := 13) (N := some 82) (v := ?_) (a' := ?_) #[y_, y_, y_, y_, y_, y_, y_, y_, y_, y_, y_, y_, y_, y_, n_, n_] rfl rfl (take_ofW HT_.out HW_.out (by kernel_rfl)) (fun _ _ _ h => h) (Or.inl ⟨by rfl, ?_⟩) hHeld ?_ ?_
                  rotate_left
                  ·rintro w' ⟨s0, s1, s2, s3, s4, s5⟩
                   go_simp
                   with_reducible rfl
                  rotate_left
                  ·simp only [Act.put, sI_, s0_, sS_, i64_w, i32_w]
                   rfl
                  refine pure_ (i := 14) (N := some 83) (v := ?_) (a' := ?_) #[y_, y_, y_, y_, y_, y_, y_, y_, y_, y_, y_, y_, y_, y_, y_, n_] rfl rfl (any_of HT_.out (by kernel_rfl)) (fun _ _ _ h => h) (Or.inl ⟨by rfl, ?_⟩) ?_ ?_
                  rotate_left
                  ·intro w'
                   go_simp
                   with_reducible rfl
                  rotate_left
                  ·simp only [Act.put, sI_, s0_, sS_, i64_w, i32_w]
                   rfl
                  refine pure_ (i := 15) (N := some 84) (v := ?_) (a' := ?_) #[y_, y_, y_, y_, y_, y_, y_, y_, y_, y_, y_, y_, y_, y_, y_, y_] rfl rfl (any_of HT_.out (by kernel_rfl)) (fun _ _ _ h => h) (Or.inl ⟨by rfl, ?_⟩) ?_ ?_
                  rotate_left
                  ·intro w'
                   go_simp
                   with_reducible rfl
                  rotate_left
                  ·simp only [Act.put, sI_, s0_, sS_, i64_w, i32_w]
                   rfl
                  refine done_ (done_of HT_.out (by kernel_rfl)) ?_
                  try go_wp2
                  have n0_ := Aside0.mk (Kd.R_drew HO_13.out)
                  have n1_ := Aside0.mk (blk_drew BK213.out)
                  have n2_ := Aside0.mk (blk_drew BK215.out)
                  have n3_ := Aside0.mk (below_drew1 HB.out)
                  clear HO_13
                  clear BK213
                  clear BK215
                  clear HB
                  have HO_13 := n0_
                  have BK213 := n1_
                  have BK215 := n2_
                  have HB := n3_
                  clear n0_ n1_ n2_ n3_
                  have p218 : 0 ≤ (a2 : Int) := of_decide_eq_true (by first | (with_reducible assumption) | assumption)
                  have q218 : a2 < (l0.length : Int) := of_decide_eq_true (by first | (with_reducible assumption) | assumption)
                  obtain ⟨ad218, e218, hx218_0, hx218_1, hx218_2⟩ := at_T44 HR0.out a2 p218 q218
                  have hw218_2 := hx218_2
                  have hw218_1 := hx218_1
                  have hw218_0 := hx218_0
                  obtain rfl : ad210 = ad218 := (by injection e218)
                  replace hx218_0 := (HB.out.cell (World.block_lt_of_cell? w _ hx218_0)).trans hx218_0
                  replace hx218_1 := (HB.out.cell (World.block_lt_of_cell? w _ hx218_1)).trans hx218_1
                  replace hx218_2 := (HB.out.cell (World.block_lt_of_cell? w _ hx218_2)).trans hx218_2
                  replace p218 := eq_true p218
                  replace q218 := eq_true q218
                  refine start_ (n := 23) (S := fun w' => w'.cell? ⟨gb215, 0, none⟩ = some (.int .i64 t211) ∧ w'.cell? ⟨gb215, 1, none⟩ = some (.int .i64 t212) ∧ w'.cell? ⟨gb213, 0, none⟩ = some (.int .i64 t211) ∧ w'.cell? ⟨gb213, 1, none⟩ = some (.int .i64 t212) ∧ w'.cell? (ad210.add ((a2).toNat * 3)) = some (.int .i64 ((rd_T44 l0 a2).f0)) ∧ w'.cell? ⟨(ad210.add ((a2).toNat * 3)).block, (ad210.add ((a2).toNat * 3)).off + 1, none⟩ = some (.int .i64 ((rd_T44 l0 a2).f1)) ∧ w'.cell? ⟨(ad210.add ((a2).toNat * 3)).block, (ad210.add ((a2).toNat * 3)).off + 2, none⟩ = some (.int .i64 ((rd_T44 l0 a2).f2))) (ds := [22]) #[n_, n_, n_, n_, n_, n_, n_, n_, n_, n_, n_, n_, n_, n_, n_, n_, n_, n_, n_, n_, n_, n_, n_] (by kernel_rfl) rfl rfl ⟨(blk_cell BK215.out 0).trans rfl, (blk_cell BK215.out 1).trans rfl, (blk_cell BK213.out 0).trans rfl, (blk_cell BK213.out 1).trans rfl, ((HB.out.cell (World.block_lt_of_cell? w _ hw218_0)).trans hw218_0), ((HB.out.cell (World.block_lt_of_cell? w _ hw218_1)).trans hw218_1), ((HB.out.cell (World.block_lt_of_cell? w _ hw218_2)).trans hw218_2)⟩ (fun hHeld => ?_); refine with_tabW cohousingref28_equation.tab17 cohousingref28_equation.bits17 (fun HT_ HW_ => ?_)
                  generalize w34.drew = w35 at HO_13 BK213 BK215 HB hx218_0 hx218_1 hx218_2 hHeld ⊢
                  refine pure_ (i := 1) (N := some 86) (v := ?_) (a' := ?_) #[n_, y_, n_, n_, n_, n_, n_, n_, n_, n_, n_, n_, n_, n_, n_, n_, n_, n_, n_, n_, n_, n_, n_] rfl rfl (any_of HT_.out (by kernel_rfl)) (fun _ _ _ h => h) (Or.inl ⟨by rfl, ?_⟩) ?_ ?_
                  rotate_left
                  ·intro w'
                   go_simp
                   with_reducible rfl
                  rotate_left
                  ·simp only [Act.put, sI_, s0_, sS_, i64_w, i32_w]
                   rfl
                  refine pure_ (i := 3) (N := some 88) (v := ?_) (a' := ?_) #[n_, y_, n_, y_, n_, n_, n_, n_, n_, n_, n_, n_, n_, n_, n_, n_, n_, n_, n_, n_, n_, n_, n_] rfl rfl (any_of HT_.out (by kernel_rfl)) (fun _ _ _ h => h) (Or.inl ⟨by rfl, ?_⟩) ?_ ?_
                  rotate_left
                  ·intro w'
                   go_simp
                   with_reducible rfl
                  rotate_left
                  ·simp only [Act.put, sI_, s0_, sS_, i64_w, i32_w]
                   rfl
                  refine pure_ (i := 4) (N := some 89) (v := ?_) (a' := ?_) #[n_, y_, n_, y_, y_, n_, n_, n_, n_, n_, n_, n_, n_, n_, n_, n_, n_, n_, n_, n_, n_, n_, n_] rfl rfl (any_of HT_.out (by kernel_rfl)) (fun _ _ _ h => h) (Or.inl ⟨by rfl, ?_⟩) ?_ ?_
                  rotate_left
                  ·intro w'
                   go_simp
                   with_reducible rfl
                  rotate_left
                  ·simp only [Act.put, sI_, s0_, sS_, i64_w, i32_w]
                   rfl
                  refine pure_ (i := 5) (N := some 90) (v := ?_) (a' := ?_) #[n_, y_, n_, y_, y_, y_, n_, n_, n_, n_, n_, n_, n_, n_, n_, n_, n_, n_, n_, n_, n_, n_, n_] rfl rfl (any_of HT_.out (by kernel_rfl)) (fun _ _ _ h => h) (Or.inl ⟨by rfl, ?_⟩) ?_ ?_
                  rotate_left
                  ·intro w'
                   go_simp
                   with_reducible rfl
                  rotate_left
                  ·simp only [Act.put, sI_, s0_, sS_, i64_w, i32_w]
                   rfl
                  refine pure_ (i := 6) (N := some 91) (v := ?_) (a' := ?_) #[n_, y_, n_, y_, y_, y_, y_, n_, n_, n_, n_, n_, n_, n_, n_, n_, n_, n_, n_, n_, n_, n_, n_] rfl rfl (any_of HT_.out (by kernel_rfl)) (fun _ _ _ h => h) (Or.inl ⟨by rfl, ?_⟩) ?_ ?_
                  rotate_left
                  ·intro w'
                   go_simp
                   with_reducible rfl
                  rotate_left
                  ·simp only [Act.put, sI_, s0_, sS_, i64_w, i32_w]
                   rfl
                  refine pure_ (i := 9) (N := some 94) (v := ?_) (a' := ?_) #[n_, y_, n_, y_, y_, y_, y_, n_, n_, y_, n_, n_, n_, n_, n_, n_, n_, n_, n_, n_, n_, n_, n_] rfl rfl (any_of HT_.out (by kernel_rfl)) (fun _ _ _ h => h) (Or.inl ⟨by rfl, ?_⟩) ?_ ?_
                  rotate_left
                  ·intro w'
                   go_simp
                   with_reducible rfl
                  rotate_left
                  ·simp only [Act.put, sI_, s0_, sS_, i64_w, i32_w]
                   rfl
                  refine pure_ (i := 10) (N := some 95) (v := ?_) (a' := ?_) #[n_, y_, n_, y_, y_, y_, y_, n_, n_, y_, y_, n_, n_, n_, n_, n_, n_, n_, n_, n_, n_, n_, n_] rfl rfl (any_of HT_.out (by kernel_rfl)) (fun _ _ _ h => h) (Or.inl ⟨by rfl, ?_⟩) ?_ ?_
                  rotate_left
                  ·intro w'
                   go_simp
                   with_reducible rfl
                  rotate_left
                  ·simp only [Act.put, sI_, s0_, sS_, i64_w, i32_w]
                   rfl
                  refine pure_ (i := 14) (N := some 99) (v := ?_) (a' := ?_) #[n_, y_, n_, y_, y_, y_, y_, n_, n_, y_, y_, n_, n_, n_, y_, n_, n_, n_, n_, n_, n_, n_, n_] rfl rfl (any_of HT_.out (by kernel_rfl)) (fun _ _ _ h => h) (Or.inl ⟨by rfl, ?_⟩) ?_ ?_
                  rotate_left
                  ·intro w'
                   go_simp
                   with_reducible rfl
                  rotate_left
                  ·simp only [Act.put, sI_, s0_, sS_, i64_w, i32_w]
                   rfl
                  refine pure_ (i := 16) (N := some 101) (v := ?_) (a' := ?_) #[n_, y_, n_, y_, y_, y_, y_, n_, n_, y_, y_, n_, n_, n_, y_, n_, y_, n_, n_, n_, n_, n_, n_] rfl rfl (any_of HT_.out (by kernel_rfl)) (fun _ _ _ h => h) (Or.inl ⟨by rfl, ?_⟩) ?_ ?_
                  rotate_left
                  ·intro w'
                   go_simp
                   with_reducible rfl
                  rotate_left
                  ·simp only [Act.put, sI_, s0_, sS_, i64_w, i32_w]
                   rfl
                  refine pure_ (i := 17) (N := some 102) (v := ?_) (a' := ?_) #[n_, y_, n_, y_, y_, y_, y_, n_, n_, y_, y_, n_, n_, n_, y_, n_, y_, y_, n_, n_, n_, n_, n_] rfl rfl (any_of HT_.out (by kernel_rfl)) (fun _ _ _ h => h) (Or.inl ⟨by rfl, ?_⟩) ?_ ?_
                  rotate_left
                  ·intro w'
                   go_simp
                   with_reducible rfl
                  rotate_left
                  ·simp only [Act.put, sI_, s0_, sS_, i64_w, i32_w]
                   rfl
                  refine take_ (i := 0) (N := some 85) (v := ?_) (a' := ?_) #[y_, y_, n_, y_, y_, y_, y_, n_, n_, y_, y_, n_, n_, n_, y_, n_, y_, y_, n_, n_, n_, n_, n_] rfl rfl (take_ofW HT_.out HW_.out (by kernel_rfl)) (fun _ _ _ h => h) (Or.inl ⟨by rfl, ?_⟩) hHeld ?_ ?_
                  rotate_left
                  ·rintro w' ⟨s0, s1, s2, s3, s4, s5, s6⟩
                   go_simp
                   with_reducible rfl
                  rotate_left
                  ·simp only [Act.put, sI_, s0_, sS_, i64_w, i32_w]
                   rfl
                  refine take_ (i := 2) (N := some 87) (v := ?_) (a' := ?_) #[y_, y_, y_, y_, y_, y_, y_, n_, n_, y_, y_, n_, n_, n_, y_, n_, y_, y_, n_, n_, n_, n_, n_] rfl rfl (take_ofW HT_.out HW_.out (by kernel_rfl)) (fun _ _ _ h => h) (Or.inl ⟨by rfl, ?_⟩) hHeld ?_ ?_
                  rotate_left
                  ·rintro w' ⟨s0, s1, s2, s3, s4, s5, s6⟩
                   go_simp
                   with_reducible rfl
                  rotate_left
                  ·simp only [Act.put, sI_, s0_, sS_, i64_w, i32_w]
                   rfl
                  refine take_ (i := 7) (N := some 92) (v := ?_) (a' := ?_) #[y_, y_, y_, y_, y_, y_, y_, y_, n_, y_, y_, n_, n_, n_, y_, n_, y_, y_, n_, n_, n_, n_, n_] rfl rfl (take_ofW HT_.out HW_.out (by kernel_rfl)) (fun _ _ _ h => h) (Or.inl ⟨by rfl, ?_⟩) hHeld ?_ ?_
                  rotate_left
                  ·rintro w' ⟨s0, s1, s2, s3, s4, s5, s6⟩
                   go_simp
                   with_reducible rfl
                  rotate_left
                  ·simp only [Act.put, sI_, s0_, sS_, i64_w, i32_w]
                   rfl
                  refine pure_ (i := 8) (N := some 93) (v := ?_) (a' := ?_) #[y_, y_, y_, y_, y_, y_, y_, y_, y_, y_, y_, n_, n_, n_, y_, n_, y_, y_, n_, n_, n_, n_, n_] rfl rfl (any_of HT_.out (by kernel_rfl)) (fun _ _ _ h => h) (Or.inl ⟨by rfl, ?_⟩) ?_ ?_
                  rotate_left
                  ·intro w'
                   go_simp
                   with_reducible rfl
                  rotate_left
                  ·simp only [Act.put, sI_, s0_, sS_, i64_w, i32_w]
                   rfl
                  refine take_ (i := 11) (N := some 96) (v := ?_) (a' := ?_) #[y_, y_, y_, y_, y_, y_, y_, y_, y_, y_, y_, y_, n_, n_, y_, n_, y_, y_, n_, n_, n_, n_, n_] rfl rfl (take_ofW HT_.out HW_.out (by kernel_rfl)) (fun _ _ _ h => h) (Or.inl ⟨by rfl, ?_⟩) hHeld ?_ ?_
                  rotate_left
                  ·rintro w' ⟨s0, s1, s2, s3, s4, s5, s6⟩
                   go_simp
                   with_reducible rfl
                  rotate_left
                  ·simp only [Act.put, sI_, s0_, sS_, i64_w, i32_w]
                   rfl
                  refine pure_ (i := 12) (N := some 97) (v := ?_) (a' := ?_) #[y_, y_, y_, y_, y_, y_, y_, y_, y_, y_, y_, y_, y_, n_, y_, n_, y_, y_, n_, n_, n_, n_, n_] rfl rfl (any_of HT_.out (by kernel_rfl)) (fun _ _ _ h => h) (Or.inl ⟨by rfl, ?_⟩) ?_ ?_
                  rotate_left
                  ·intro w'
                   go_simp
                   with_reducible rfl
                  rotate_left
                  ·simp only [Act.put, sI_, s0_, sS_, i64_w, i32_w]
                   rfl
                  refine pure_ (i := 13) (N := some 98) (v := ?_) (a' := ?_) #[y_, y_, y_, y_, y_, y_, y_, y_, y_, y_, y_, y_, y_, y_, y_, n_, y_, y_, n_, n_, n_, n_, n_] rfl rfl (any_of HT_.out (by kernel_rfl)) (fun _ _ _ h => h) (Or.inl ⟨by rfl, ?_⟩) ?_ ?_
                  rotate_left
                  ·intro w'
                   go_simp
                   with_reducible rfl
                  rotate_left
                  ·simp only [Act.put, sI_, s0_, sS_, i64_w, i32_w]
                   rfl
                  refine take_ (i := 15) (N := some 100) (v := ?_) (a' := ?_) #[y_, y_, y_, y_, y_, y_, y_, y_, y_, y_, y_, y_, y_, y_, y_, y_, y_, y_, n_, n_, n_, n_, n_] rfl rfl (take_ofW HT_.out HW_.out (by kernel_rfl)) (fun _ _ _ h => h) (Or.inl ⟨by rfl, ?_⟩) hHeld ?_ ?_
                  rotate_left
                  ·rintro w' ⟨s0, s1, s2, s3, s4, s5, s6⟩
                   go_simp
                   with_reducible rfl
                  rotate_left
                  ·simp only [Act.put, sI_, s0_, sS_, i64_w, i32_w]
                   rfl
                  refine take_ (i := 18) (N := some 103) (v := ?_) (a' := ?_) #[y_, y_, y_, y_, y_, y_, y_, y_, y_, y_, y_, y_, y_, y_, y_, y_, y_, y_, y_, n_, n_, n_, n_] rfl rfl (take_ofW HT_.out HW_.out (by kernel_rfl)) (fun _ _ _ h => h) (Or.inl ⟨by rfl, ?_⟩) hHeld ?_ ?_
                  rotate_left
                  ·rintro w' ⟨s0, s1, s2, s3, s4, s5, s6⟩
                   go_simp
                   with_reducible rfl
                  rotate_left
                  ·simp only [Act.put, sI_, s0_, sS_, i64_w, i32_w]
                   rfl
                  refine pure_ (i := 19) (N := some 104) (v := ?_) (a' := ?_) #[y_, y_, y_, y_, y_, y_, y_, y_, y_, y_, y_, y_, y_, y_, y_, y_, y_, y_, y_, y_, n_, n_, n_] rfl rfl (any_of HT_.out (by kernel_rfl)) (fun _ _ _ h => h) (Or.inl ⟨by rfl, ?_⟩) ?_ ?_
                  rotate_left
                  ·intro w'
                   go_simp
                   with_reducible rfl
                  rotate_left
                  ·simp only [Act.put, sI_, s0_, sS_, i64_w, i32_w]
                   rfl
                  refine pure_ (i := 20) (N := some 105) (v := ?_) (a' := ?_) #[y_, y_, y_, y_, y_, y_, y_, y_, y_, y_, y_, y_, y_, y_, y_, y_, y_, y_, y_, y_, y_, n_, n_] rfl rfl (any_of HT_.out (by kernel_rfl)) (fun _ _ _ h => h) (Or.inl ⟨by rfl, ?_⟩) ?_ ?_
                  rotate_left
                  ·intro w'
                   go_simp
                   with_reducible rfl
                  rotate_left
                  ·simp only [Act.put, sI_, s0_, sS_, i64_w, i32_w]
                   rfl
                  refine one_ (i := 21) (N := some 106) #[y_, y_, y_, y_, y_, y_, y_, y_, y_, y_, y_, y_, y_, y_, y_, y_, y_, y_, y_, y_, y_, y_, n_] rfl rfl (one_of HT_.out (by kernel_rfl)) (by decide) (fun K hK => ?_)
                  refine goes_ Try.func54 (by kernel_rfl) rfl #[.agg #[.int .i64 t211, .int .i64 t212], .int .i64 (wrap64 ((wrap64 (t211 - ((rd_T44 l0 a2).f2))) - (wrap64 (x10_1 - t212)))), .int .i64 (wrap64 (t212 - (wrap64 (x9_1 - t211))))] (by rfl) rfl rfl (by (try simp only [List.map_toArray, List.map_cons, List.map_nil]); first | done | rfl | (simp only [List.length_drop, List.length_take]; rfl)) ?_
                  with_reducible refine (cohousingref28_narrow.calls t211 t212 (wrap64 ((wrap64 (t211 - ((rd_T44 l0 a2).f2))) - (wrap64 (x10_1 - t212)))) (wrap64 (t212 - (wrap64 (x9_1 - t211)))) t219 t220 _ A27.out).mono ?_
                  rintro e w36 ⟨rfl, hb⟩
                  refine ⟨_, rfl, ?_⟩
                  have n0_ := Aside0.mk (Kd.R_below (by (with_reducible repeat (first | apply Kd.R_alloc | apply Kd.R_drewN | apply Kd.R_drew)); exact HO_13.out) hb)
                  have n1_ := Aside0.mk (blk_below (g := gb213) (o := .cells #[.int .i64 t211, .int .i64 t212] 39 (0, 0)) (by (with_reducible repeat (first | refine blk_drewN ?_ _ | refine blk_drew ?_ | refine blk_alloc ?_ _)); exact BK213.out) hb)
                  have n2_ := Aside0.mk (blk_below (g := gb215) (o := .cells #[.int .i64 t211, .int .i64 t212] 39 (0, 0)) (by (with_reducible repeat (first | refine blk_drewN ?_ _ | refine blk_drew ?_ | refine blk_alloc ?_ _)); exact BK215.out) hb)
                  have n3_ := Aside0.mk (below_step (by repeat (first | (with_reducible first | exact HB.out | apply below_alloc | apply pw_below_drewN | apply below_drew1 | refine below_set ?_ GE213.out | refine below_set ?_ GE215.out) | exact HB.out)) hb)
                  clear HO_13
                  clear BK213
                  clear BK215
                  clear HB
                  have HO_13 := n0_
                  have BK213 := n1_
                  have BK215 := n2_
                  have HB := n3_
                  clear n0_ n1_ n2_ n3_
                  (try clear hb)
                  (try clear hb2)
                  (try clear hk)
                  (try clear hi)
                  refine hK.out _ _ ⟨(blk_cell BK215.out 0).trans rfl, (blk_cell BK215.out 1).trans rfl, (blk_cell BK213.out 0).trans rfl, (blk_cell BK213.out 1).trans rfl, ((HB.out.cell (World.block_lt_of_cell? w _ hw218_0)).trans hw218_0), ((HB.out.cell (World.block_lt_of_cell? w _ hw218_1)).trans hw218_1), ((HB.out.cell (World.block_lt_of_cell? w _ hw218_2)).trans hw218_2)⟩ (fun hHeld => ?_)
                  clear hK K
                  refine norm_ (a' := ?_) ?_ ?_
                  rotate_left
                  ·show Act.put _ (some 106) _ = _
                   simp only [Act.put, sI_, s0_, sS_, i64_w, i32_w]
                   rfl
                  refine last_ (i := 22) (N := none) #[y_, y_, y_, y_, y_, y_, y_, y_, y_, y_, y_, y_, y_, y_, y_, y_, y_, y_, y_, y_, y_, y_, y_] rfl rfl (one_of HT_.out (by kernel_rfl)) (by decide) (fun K hK => ?_)
                  have hs37 : w36.cell? ⟨gb215, 0, none⟩ = some (.int .i64 t211) := (blk_cell BK215.out 0).trans rfl
                  have hfs37 := blk_frozen BK215.out 0
                  have hns37_0 := NB213_215.out
                  have hms37_0 := NB215_213.out
                  have hs38 : w36.cell? ⟨gb215, 1, none⟩ = some (.int .i64 t212) := (blk_cell BK215.out 1).trans rfl
                  have hfs38 := blk_frozen BK215.out 1
                  have hns38_0 := NB213_215.out
                  have hms38_0 := NB215_213.out
                  refine skip_ (w1 := ?_) (by rfl) rfl ?_ ?_
                  rotate_left
                  ·go_simp
                   rfl
                  refine hK.out _ _ ?_
                  clear hK K
                  refine done_ (done_of HT_.out (by kernel_rfl)) ?_
                  have hcz39_0 : w36.cell? ⟨gb215, 0, none⟩ = some (.int .i64 t211) := (blk_cell BK215.out 0).trans rfl
                  have hcz39_1 : w36.cell? ⟨gb215, 1, none⟩ = some (.int .i64 t212) := (blk_cell BK215.out 1).trans rfl
                  have hfz39_0 := blk_frozen BK215.out 0
                  have hfz39_1 := blk_frozen BK215.out 1
                  try go_wp2_with (first | ((with_reducible refine gate_builtin (b := .append) (xs := #[.tmp 107, .tmp 109]) rfl ?_); at_builtin; refine Kd.R_append k39 (w0 := w) w.heap.size rfl (.tmp 107) (.tmp 109) 23 39 (.agg #[(.int .i64 0), (.int .i64 0)]) 16 rfl Try.underlying23 info39 rfl (by decide) (by omega) u13 x13_2 (⟨t219, t220⟩ : S39) [.int .i64 t219, .int .i64 t220] (fun k_ => k_ ≠ gb213 ∧ k_ ≠ gb215) (fun _ => False) rfl (by first | (go_simp; done) | (go_simp; rfl)) ?aP (fun _ hk => hk.elim) ?aF ?aO ?aB ?aS ?aL ?_; (case aP => exact k39_mkM _ _ _ (⟨t219, t220⟩ : S39)); (case aB => exact (by repeat (first | (with_reducible first | exact HB.out | apply below_alloc | apply pw_below_drewN | apply below_drew1 | refine below_set ?_ GE213.out | refine below_set ?_ GE215.out) | exact HB.out))); (case aF => exact (fun k_ hk => ⟨Kd.freshB (g := gb213) (o := .cells #[.int .i64 t211, .int .i64 t212] 39 (0, 0)) (by (with_reducible repeat (first | refine blk_drewN ?_ _ | refine blk_drew ?_ | refine blk_alloc ?_ _)); refine blk_far ?_ NB213_215.out _; (with_reducible repeat (first | refine blk_drewN ?_ _ | refine blk_drew ?_ | refine blk_alloc ?_ _)); refine blk_far ?_ NB213_215.out _; (with_reducible repeat (first | refine blk_drewN ?_ _ | refine blk_drew ?_ | refine blk_alloc ?_ _)); exact BK213.out) k_ hk, Kd.freshB (g := gb215) (o := .cells #[.int .i64 t219, .int .i64 t220] 39 (0, 0)) (by (with_reducible repeat (first | refine blk_drewN ?_ _ | refine blk_drew ?_ | refine blk_alloc ?_ _)); refine blk_put (cs := #[.int .i64 t219, .int .i64 t212]) ?_ 1 _ rfl; (with_reducible repeat (first | refine blk_drewN ?_ _ | refine blk_drew ?_ | refine blk_alloc ?_ _)); refine blk_put (cs := #[.int .i64 t211, .int .i64 t212]) ?_ 0 _ rfl; (with_reducible repeat (first | refine blk_drewN ?_ _ | refine blk_drew ?_ | refine blk_alloc ?_ _)); exact BK215.out) k_ hk⟩)); (case aO => exact (by (with_reducible repeat (first | apply Kd.R_alloc | apply Kd.R_drewN | apply Kd.R_drew)); exact Kd.R_mono (Kd.R_far (p := ⟨gb215, 1, none⟩) (Kd.R_far (p := ⟨gb215, 0, none⟩) (Kd.R_mono HO_13.out (fun k_ hk => (⟨hk, hk.2⟩ : _ ∧ k_ ≠ gb215))) (fun _ hk => hk.2) (.int .i64 t219)) (fun _ hk => hk.2) (.int .i64 t220)) (fun _ hk => ⟨hk.1.1, hk.1.2⟩))); (case aS => exact (below_size (by repeat (first | (with_reducible first | exact HB.out | apply below_alloc | apply pw_below_drewN | apply below_drew1 | refine below_set ?_ GE213.out | refine below_set ?_ GE215.out) | exact HB.out)))); (case aL => have := LMc28.out; omega); intro v222 w40 ho hb hg hat; rw [← Ny221.out] at ho; have n0_ := Aside0.mk (blk_grown (g := gb213) (o := .cells #[.int .i64 t211, .int .i64 t212] 39 (0, 0)) (by (with_reducible repeat (first | refine blk_drewN ?_ _ | refine blk_drew ?_ | refine blk_alloc ?_ _)); refine blk_far ?_ NB213_215.out _; (with_reducible repeat (first | refine blk_drewN ?_ _ | refine blk_drew ?_ | refine blk_alloc ?_ _)); refine blk_far ?_ NB213_215.out _; (with_reducible repeat (first | refine blk_drewN ?_ _ | refine blk_drew ?_ | refine blk_alloc ?_ _)); exact BK213.out) hg (Kd.R_away HO_13.out (fun _ hk => hk.1))); have n1_ := Aside0.mk (blk_grown (g := gb215) (o := .cells #[.int .i64 t219, .int .i64 t220] 39 (0, 0)) (by (with_reducible repeat (first | refine blk_drewN ?_ _ | refine blk_drew ?_ | refine blk_alloc ?_ _)); refine blk_put (cs := #[.int .i64 t219, .int .i64 t212]) ?_ 1 _ rfl; (with_reducible repeat (first | refine blk_drewN ?_ _ | refine blk_drew ?_ | refine blk_alloc ?_ _)); refine blk_put (cs := #[.int .i64 t211, .int .i64 t212]) ?_ 0 _ rfl; (with_reducible repeat (first | refine blk_drewN ?_ _ | refine blk_drew ?_ | refine blk_alloc ?_ _)); exact BK215.out) hg (Kd.R_away HO_13.out (fun _ hk => hk.2))); have n2_ := Aside0.mk (hb); have n3_ := Aside0.mk (ho); clear BK213; clear BK215; clear HB; clear HO_13; have BK213 := n0_; have BK215 := n1_; have HB := n2_; have HO223 := n3_; clear n0_ n1_ n2_ n3_; clear ho hb hg hat))
                  go_roundg k2
                  case measure => have := HK1.out; have := HK2.out; omega
                  case rel => exact ⟨(y221), (wrap64 (x14_2 + 1)), (by first | rfl | (simp; done) | (simp [*]; done)), H', ⟨by have := HK1.out; have := HK2.out; omega⟩, ⟨by (with_reducible repeat (first | apply Kd.R_alloc | apply Kd.R_drewN | apply Kd.R_drew)); exact Kd.R_mono HO223.out (fun _ hk => hk.1)⟩, ⟨by (with_reducible repeat (first | refine blk_drewN ?_ _ | refine blk_drew ?_ | refine blk_alloc ?_ _)); exact BK213.out⟩, ⟨by repeat (first | (with_reducible first | exact HB.out | apply below_alloc | apply pw_below_drewN | apply below_drew1 | refine below_set ?_ GE213.out | refine below_set ?_ GE215.out) | exact HB.out)⟩⟩
                 ·rw [if_neg c28] at H
                  exact absurd H (by simp)
                ·rw [if_neg c26] at H
                 have c26b0 : (((rd_T44 l0 x14_2).f1) == ((rd_T44 l0 a2).f0)) = false := beq_eq_false_iff_ne.mpr c26
                 have c26b1 : (((rd_T44 l0 x14_2).f1) != ((rd_T44 l0 a2).f0)) = true := bne_iff_ne.mpr c26
                 by_cases c41 : x13_2.length < 8796093022208
                 ·rw [if_pos c41] at H
                  have LMc41 := Aside0.mk c41
                  clear c41
                  obtain ⟨y224, hy224⟩ : ∃ y_ : List (S39), y_ = (x13_2 ++ [(⟨t211, t212⟩ : S39)]) := ⟨_, rfl⟩
                  replace H : (cohousingref28_equation.l1 k2 l0 l1 a2 x9_1 x10_1 y224 (wrap64 (x14_2 + 1)) t211 t212) = some r := by first | (rw [hy224]; with_reducible exact H) | (have H2_ := (Option.bind_some _ _).symm.trans H; rw [hy224]; with_reducible exact H2_) | (have H2_ := (Option.bind_some _ _).symm.trans H; with_reducible exact H2_) | with_reducible exact H | (rw [hy224]; exact H) | exact H
                  have Ny224 := Aside0.mk hy224
                  clear hy224
                  have H' := Aside0.mk H
                  clear H
                  have p214 : 0 ≤ (x14_2 : Int) := of_decide_eq_true (by first | (with_reducible assumption) | assumption)
                  have q214 : x14_2 < (l1.length : Int) := of_decide_eq_true (by first | (with_reducible assumption) | assumption)
                  obtain ⟨ad214, e214, hx214_0, hx214_1⟩ := at_T39 HR1.out x14_2 p214 q214
                  obtain rfl : ad209 = ad214 := (by injection e214)
                  replace hx214_0 := (HB.out.cell (World.block_lt_of_cell? w _ hx214_0)).trans hx214_0
                  replace hx214_1 := (HB.out.cell (World.block_lt_of_cell? w _ hx214_1)).trans hx214_1
                  replace p214 := eq_true p214
                  replace q214 := eq_true q214
                  try go_wp2_with (first | ((with_reducible refine gate_dst (N := 15) rfl ?_); refine box_event ?hg (N := 15) ?hd (cs := #[.int .i64 0, .int .i64 0]) (t := 39) ?hr ?_; (case hd => rfl); (case hg => rfl); (case hr => first | (go_simp; done) | (go_simp; rfl)); intro gb215 hg w42 hbox hb; have n0_ := Aside0.mk (Kd.R_below (Kd.R_elderB (by (with_reducible repeat (first | apply Kd.R_alloc | apply Kd.R_drewN | apply Kd.R_drew)); exact HO_13.out) gb215 (Nat.le_of_eq hg.symm)) hb); have n1_ := Aside0.mk (blk_below (g := gb213) (o := .cells #[.int .i64 t211, .int .i64 t212] 39 (0, 0)) (by (with_reducible repeat (first | refine blk_drewN ?_ _ | refine blk_drew ?_ | refine blk_alloc ?_ _)); exact BK213.out) hb); have n2_ := Aside0.mk (below_step (by repeat (first | (with_reducible first | exact HB.out | apply below_alloc | apply pw_below_drewN | apply below_drew1 | refine below_set ?_ GE213.out) | exact HB.out)) hb); have n3_ := Aside0.mk (hbox); have n4_ := Aside0.mk ((by rw [hg]; exact (below_size (by repeat (first | (with_reducible first | exact HB.out | apply below_alloc | apply pw_below_drewN | apply below_drew1 | refine below_set ?_ GE213.out) | exact HB.out))) : w.heap.size ≤ gb215)); have n5_ := Aside0.mk ((by rw [hg]; exact (below_size (by repeat (first | (with_reducible first | exact HB.out | apply below_alloc | apply pw_below_drewN | apply below_drew1 | refine below_set ?_ GE213.out) | exact HB.out))) : w.heap.size ≤ gb215)); have n6_ := Aside0.mk ((by rw [hg]; exact Nat.ne_of_lt (blk_lt (g := gb213) (o := .cells #[.int .i64 t211, .int .i64 t212] 39 (0, 0)) (by (with_reducible repeat (first | refine blk_drewN ?_ _ | refine blk_drew ?_ | refine blk_alloc ?_ _)); exact BK213.out)) : gb213 ≠ gb215)); have n7_ := Aside0.mk ((by rw [hg]; exact Nat.ne_of_gt (blk_lt (g := gb213) (o := .cells #[.int .i64 t211, .int .i64 t212] 39 (0, 0)) (by (with_reducible repeat (first | refine blk_drewN ?_ _ | refine blk_drew ?_ | refine blk_alloc ?_ _)); exact BK213.out)) : gb215 ≠ gb213)); clear HO_13; clear BK213; clear HB; have HO_13 := n0_; have BK213 := n1_; have HB := n2_; have BK215 := n3_; have GW215 := n4_; have GE215 := n5_; have NB213_215 := n6_; have NB215_213 := n7_; clear n0_ n1_ n2_ n3_ n4_ n5_ n6_ n7_; clear hb hbox hg; have hnb43 := NB215_213.out; have hnc43 := NB213_215.out; have hcz44_0 : w42.cell? ⟨gb215, 0, none⟩ = some (.int .i64 0) := (blk_cell BK215.out 0).trans rfl; have hcz44_1 : w42.cell? ⟨gb215, 1, none⟩ = some (.int .i64 0) := (blk_cell BK215.out 1).trans rfl; have hfz44_0 := blk_frozen BK215.out 0; have hfz44_1 := blk_frozen BK215.out 1; have hcz45_0 : w42.cell? ⟨gb213, 0, none⟩ = some (.int .i64 t211) := (blk_cell BK213.out 0).trans rfl; have hcz45_1 : w42.cell? ⟨gb213, 1, none⟩ = some (.int .i64 t212) := (blk_cell BK213.out 1).trans rfl; have hfz45_0 := blk_frozen BK213.out 0; have hfz45_1 := blk_frozen BK213.out 1))
                  have n0_ : Aside0 (Kd.R k39 39 ((((w42.setCell ⟨gb215, 0, none⟩ (.int .i64 ((rd_T39 l1 x14_2).f0))).setCell ⟨gb215, 1, none⟩ (.int .i64 ((rd_T39 l1 x14_2).f1))).setCell ⟨gb215, 0, none⟩ (.int .i64 t211)).setCell ⟨gb215, 1, none⟩ (.int .i64 t212)) w.heap.size (fun k_ => k_ ≠ gb213 ∧ k_ ≠ gb215) u13 x13_2) := ⟨by (with_reducible repeat (first | apply Kd.R_alloc | apply Kd.R_drewN | apply Kd.R_drew)); exact Kd.R_mono (Kd.R_far (p := ⟨gb215, 1, none⟩) (Kd.R_far (p := ⟨gb215, 0, none⟩) (Kd.R_far (p := ⟨gb215, 1, none⟩) (Kd.R_far (p := ⟨gb215, 0, none⟩) (Kd.R_mono HO_13.out (fun k_ hk => (⟨hk, hk.2⟩ : _ ∧ k_ ≠ gb215))) (fun _ hk => hk.2) (.int .i64 ((rd_T39 l1 x14_2).f0))) (fun _ hk => hk.2) (.int .i64 ((rd_T39 l1 x14_2).f1))) (fun _ hk => hk.2) (.int .i64 t211)) (fun _ hk => hk.2) (.int .i64 t212)) (fun _ hk => ⟨hk.1.1, hk.1.2⟩)⟩
                  have n1_ : Aside0 (((((w42.setCell ⟨gb215, 0, none⟩ (.int .i64 ((rd_T39 l1 x14_2).f0))).setCell ⟨gb215, 1, none⟩ (.int .i64 ((rd_T39 l1 x14_2).f1))).setCell ⟨gb215, 0, none⟩ (.int .i64 t211)).setCell ⟨gb215, 1, none⟩ (.int .i64 t212)).heap[gb213]? = some (.cells #[.int .i64 t211, .int .i64 t212] 39 (0, 0))) := ⟨by (with_reducible repeat (first | refine blk_drewN ?_ _ | refine blk_drew ?_ | refine blk_alloc ?_ _)); refine blk_far ?_ NB213_215.out _; (with_reducible repeat (first | refine blk_drewN ?_ _ | refine blk_drew ?_ | refine blk_alloc ?_ _)); refine blk_far ?_ NB213_215.out _; (with_reducible repeat (first | refine blk_drewN ?_ _ | refine blk_drew ?_ | refine blk_alloc ?_ _)); refine blk_far ?_ NB213_215.out _; (with_reducible repeat (first | refine blk_drewN ?_ _ | refine blk_drew ?_ | refine blk_alloc ?_ _)); refine blk_far ?_ NB213_215.out _; (with_reducible repeat (first | refine blk_drewN ?_ _ | refine blk_drew ?_ | refine blk_alloc ?_ _)); exact BK213.out⟩
                  have n2_ : Aside0 (((((w42.setCell ⟨gb215, 0, none⟩ (.int .i64 ((rd_T39 l1 x14_2).f0))).setCell ⟨gb215, 1, none⟩ (.int .i64 ((rd_T39 l1 x14_2).f1))).setCell ⟨gb215, 0, none⟩ (.int .i64 t211)).setCell ⟨gb215, 1, none⟩ (.int .i64 t212)).heap[gb215]? = some (.cells #[.int .i64 t211, .int .i64 t212] 39 (0, 0))) := ⟨by (with_reducible repeat (first | refine blk_drewN ?_ _ | refine blk_drew ?_ | refine blk_alloc ?_ _)); refine blk_put (cs := #[.int .i64 t211, .int .i64 ((rd_T39 l1 x14_2).f1)]) ?_ 1 _ rfl; (with_reducible repeat (first | refine blk_drewN ?_ _ | refine blk_drew ?_ | refine blk_alloc ?_ _)); refine blk_put (cs := #[.int .i64 ((rd_T39 l1 x14_2).f0), .int .i64 ((rd_T39 l1 x14_2).f1)]) ?_ 0 _ rfl; (with_reducible repeat (first | refine blk_drewN ?_ _ | refine blk_drew ?_ | refine blk_alloc ?_ _)); refine blk_put (cs := #[.int .i64 ((rd_T39 l1 x14_2).f0), .int .i64 0]) ?_ 1 _ rfl; (with_reducible repeat (first | refine blk_drewN ?_ _ | refine blk_drew ?_ | refine blk_alloc ?_ _)); refine blk_put (cs := #[.int .i64 0, .int .i64 0]) ?_ 0 _ rfl; (with_reducible repeat (first | refine blk_drewN ?_ _ | refine blk_drew ?_ | refine blk_alloc ?_ _)); exact BK215.out⟩
                  have n3_ : Aside0 (Below w.heap.size w ((((w42.setCell ⟨gb215, 0, none⟩ (.int .i64 ((rd_T39 l1 x14_2).f0))).setCell ⟨gb215, 1, none⟩ (.int .i64 ((rd_T39 l1 x14_2).f1))).setCell ⟨gb215, 0, none⟩ (.int .i64 t211)).setCell ⟨gb215, 1, none⟩ (.int .i64 t212))) := ⟨by repeat (first | (with_reducible first | exact HB.out | apply below_alloc | apply pw_below_drewN | apply below_drew1 | refine below_set ?_ GE213.out | refine below_set ?_ GE215.out) | exact HB.out)⟩
                  (try clear HO_13)
                  (try clear BK213)
                  (try clear BK215)
                  (try clear HB)
                  generalize ((((w42.setCell ⟨gb215, 0, none⟩ (.int .i64 ((rd_T39 l1 x14_2).f0))).setCell ⟨gb215, 1, none⟩ (.int .i64 ((rd_T39 l1 x14_2).f1))).setCell ⟨gb215, 0, none⟩ (.int .i64 t211)).setCell ⟨gb215, 1, none⟩ (.int .i64 t212)) = w46 at n0_ n1_ n2_ n3_ ⊢
                  have HO_13 := n0_
                  have BK213 := n1_
                  have BK215 := n2_
                  have HB := n3_
                  clear n0_ n1_ n2_ n3_
                  have n0_ := Aside0.mk (Kd.R_drew HO_13.out)
                  have n1_ := Aside0.mk (blk_drew BK213.out)
                  have n2_ := Aside0.mk (blk_drew BK215.out)
                  have n3_ := Aside0.mk (below_drew1 HB.out)
                  clear HO_13
                  clear BK213
                  clear BK215
                  clear HB
                  have HO_13 := n0_
                  have BK213 := n1_
                  have BK215 := n2_
                  have HB := n3_
                  clear n0_ n1_ n2_ n3_
                  have p216 : 0 ≤ (x14_2 : Int) := of_decide_eq_true (by first | (with_reducible assumption) | assumption)
                  have q216 : x14_2 < (l0.length : Int) := of_decide_eq_true (by first | (with_reducible assumption) | assumption)
                  obtain ⟨ad216, e216, hx216_0, hx216_1, hx216_2⟩ := at_T44 HR0.out x14_2 p216 q216
                  have hw216_2 := hx216_2
                  have hw216_1 := hx216_1
                  have hw216_0 := hx216_0
                  obtain rfl : ad210 = ad216 := (by injection e216)
                  replace hx216_0 := (HB.out.cell (World.block_lt_of_cell? w _ hx216_0)).trans hx216_0
                  replace hx216_1 := (HB.out.cell (World.block_lt_of_cell? w _ hx216_1)).trans hx216_1
                  replace hx216_2 := (HB.out.cell (World.block_lt_of_cell? w _ hx216_2)).trans hx216_2
                  replace p216 := eq_true p216
                  replace q216 := eq_true q216
                  have p217 : 0 ≤ (a2 : Int) := of_decide_eq_true (by first | (with_reducible assumption) | assumption)
                  have q217 : a2 < (l0.length : Int) := of_decide_eq_true (by first | (with_reducible assumption) | assumption)
                  obtain ⟨ad217, e217, hx217_0, hx217_1, hx217_2⟩ := at_T44 HR0.out a2 p217 q217
                  have hw217_2 := hx217_2
                  have hw217_1 := hx217_1
                  have hw217_0 := hx217_0
                  obtain rfl : ad210 = ad217 := (by injection e217)
                  replace hx217_0 := (HB.out.cell (World.block_lt_of_cell? w _ hx217_0)).trans hx217_0
                  replace hx217_1 := (HB.out.cell (World.block_lt_of_cell? w _ hx217_1)).trans hx217_1
                  replace hx217_2 := (HB.out.cell (World.block_lt_of_cell? w _ hx217_2)).trans hx217_2
                  replace p217 := eq_true p217
                  replace q217 := eq_true q217
                  refine start_ (n := 16) (S := fun w' => w'.cell? (ad210.add ((x14_2).toNat * 3)) = some (.int .i64 ((rd_T44 l0 x14_2).f0)) ∧ w'.cell? ⟨(ad210.add ((x14_2).toNat * 3)).block, (ad210.add ((x14_2).toNat * 3)).off + 1, none⟩ = some (.int .i64 ((rd_T44 l0 x14_2).f1)) ∧ w'.cell? ⟨(ad210.add ((x14_2).toNat * 3)).block, (ad210.add ((x14_2).toNat * 3)).off + 2, none⟩ = some (.int .i64 ((rd_T44 l0 x14_2).f2)) ∧ w'.cell? (ad210.add ((a2).toNat * 3)) = some (.int .i64 ((rd_T44 l0 a2).f0)) ∧ w'.cell? ⟨(ad210.add ((a2).toNat * 3)).block, (ad210.add ((a2).toNat * 3)).off + 1, none⟩ = some (.int .i64 ((rd_T44 l0 a2).f1)) ∧ w'.cell? ⟨(ad210.add ((a2).toNat * 3)).block, (ad210.add ((a2).toNat * 3)).off + 2, none⟩ = some (.int .i64 ((rd_T44 l0 a2).f2))) (ds := []) #[n_, n_, n_, n_, n_, n_, n_, n_, n_, n_, n_, n_, n_, n_, n_, n_] (by kernel_rfl) rfl rfl ⟨((HB.out.cell (World.block_lt_of_cell? w _ hw216_0)).trans hw216_0), ((HB.out.cell (World.block_lt_of_cell? w _ hw216_1)).trans hw216_1), ((HB.out.cell (World.block_lt_of_cell? w _ hw216_2)).trans hw216_2), ((HB.out.cell (World.block_lt_of_cell? w _ hw217_0)).trans hw217_0), ((HB.out.cell (World.block_lt_of_cell? w _ hw217_1)).trans hw217_1), ((HB.out.cell (World.block_lt_of_cell? w _ hw217_2)).trans hw217_2)⟩ (fun hHeld => ?_); refine with_tabW cohousingref28_equation.tab16 cohousingref28_equation.bits16 (fun HT_ HW_ => ?_)
                  generalize w46.drew = w47 at HO_13 BK213 BK215 HB hx216_0 hx216_1 hx216_2 hx217_0 hx217_1 hx217_2 hHeld ⊢
                  refine pure_ (i := 0) (N := some 69) (v := ?_) (a' := ?_) #[y_, n_, n_, n_, n_, n_, n_, n_, n_, n_, n_, n_, n_, n_, n_, n_] rfl rfl (any_of HT_.out (by kernel_rfl)) (fun _ _ _ h => h) (Or.inl ⟨by rfl, ?_⟩) ?_ ?_
                  rotate_left
                  ·intro w'
                   go_simp
                   with_reducible rfl
                  rotate_left
                  ·simp only [Act.put, sI_, s0_, sS_, i64_w, i32_w]
                   rfl
                  refine pure_ (i := 1) (N := some 70) (v := ?_) (a' := ?_) #[y_, y_, n_, n_, n_, n_, n_, n_, n_, n_, n_, n_, n_, n_, n_, n_] rfl rfl (any_of HT_.out (by kernel_rfl)) (fun _ _ _ h => h) (Or.inl ⟨by rfl, ?_⟩) ?_ ?_
                  rotate_left
                  ·intro w'
                   go_simp
                   with_reducible rfl
                  rotate_left
                  ·simp only [Act.put, sI_, s0_, sS_, i64_w, i32_w]
                   rfl
                  refine pure_ (i := 2) (N := some 71) (v := ?_) (a' := ?_) #[y_, y_, y_, n_, n_, n_, n_, n_, n_, n_, n_, n_, n_, n_, n_, n_] rfl rfl (any_of HT_.out (by kernel_rfl)) (fun _ _ _ h => h) (Or.inl ⟨by rfl, ?_⟩) ?_ ?_
                  rotate_left
                  ·intro w'
                   go_simp
                   with_reducible rfl
                  rotate_left
                  ·simp only [Act.put, sI_, s0_, sS_, i64_w, i32_w]
                   rfl
                  refine pure_ (i := 3) (N := some 72) (v := ?_) (a' := ?_) #[y_, y_, y_, y_, n_, n_, n_, n_, n_, n_, n_, n_, n_, n_, n_, n_] rfl rfl (any_of HT_.out (by kernel_rfl)) (fun _ _ _ h => h) (Or.inl ⟨by rfl, ?_⟩) ?_ ?_
                  rotate_left
                  ·intro w'
                   go_simp
                   with_reducible rfl
                  rotate_left
                  ·simp only [Act.put, sI_, s0_, sS_, i64_w, i32_w]
                   rfl
                  refine pure_ (i := 4) (N := some 73) (v := ?_) (a' := ?_) #[y_, y_, y_, y_, y_, n_, n_, n_, n_, n_, n_, n_, n_, n_, n_, n_] rfl rfl (any_of HT_.out (by kernel_rfl)) (fun _ _ _ h => h) (Or.inl ⟨by rfl, ?_⟩) ?_ ?_
                  rotate_left
                  ·intro w'
                   go_simp
                   with_reducible rfl
                  rotate_left
                  ·simp only [Act.put, sI_, s0_, sS_, i64_w, i32_w]
                   rfl
                  refine pure_ (i := 5) (N := some 74) (v := ?_) (a' := ?_) #[y_, y_, y_, y_, y_, y_, n_, n_, n_, n_, n_, n_, n_, n_, n_, n_] rfl rfl (any_of HT_.out (by kernel_rfl)) (fun _ _ _ h => h) (Or.inl ⟨by rfl, ?_⟩) ?_ ?_
                  rotate_left
                  ·intro w'
                   go_simp
                   with_reducible rfl
                  rotate_left
                  ·simp only [Act.put, sI_, s0_, sS_, i64_w, i32_w]
                   rfl
                  refine pure_ (i := 6) (N := some 75) (v := ?_) (a' := ?_) #[y_, y_, y_, y_, y_, y_, y_, n_, n_, n_, n_, n_, n_, n_, n_, n_] rfl rfl (any_of HT_.out (by kernel_rfl)) (fun _ _ _ h => h) (Or.inl ⟨by rfl, ?_⟩) ?_ ?_
                  rotate_left
                  ·intro w'
                   go_simp
                   with_reducible rfl
                  rotate_left
                  ·simp only [Act.put, sI_, s0_, sS_, i64_w, i32_w]
                   rfl
                  refine pure_ (i := 7) (N := some 76) (v := ?_) (a' := ?_) #[y_, y_, y_, y_, y_, y_, y_, y_, n_, n_, n_, n_, n_, n_, n_, n_] rfl rfl (any_of HT_.out (by kernel_rfl)) (fun _ _ _ h => h) (Or.inl ⟨by rfl, ?_⟩) ?_ ?_
                  rotate_left
                  ·intro w'
                   go_simp
                   with_reducible rfl
                  rotate_left
                  ·simp only [Act.put, sI_, s0_, sS_, i64_w, i32_w]
                   rfl
                  refine pure_ (i := 9) (N := some 78) (v := ?_) (a' := ?_) #[y_, y_, y_, y_, y_, y_, y_, y_, n_, y_, n_, n_, n_, n_, n_, n_] rfl rfl (any_of HT_.out (by kernel_rfl)) (fun _ _ _ h => h) (Or.inl ⟨by rfl, ?_⟩) ?_ ?_
                  rotate_left
                  ·intro w'
                   go_simp
                   with_reducible rfl
                  rotate_left
                  ·simp only [Act.put, sI_, s0_, sS_, i64_w, i32_w]
                   rfl
                  refine pure_ (i := 10) (N := some 79) (v := ?_) (a' := ?_) #[y_, y_, y_, y_, y_, y_, y_, y_, n_, y_, y_, n_, n_, n_, n_, n_] rfl rfl (any_of HT_.out (by kernel_rfl)) (fun _ _ _ h => h) (Or.inl ⟨by rfl, ?_⟩) ?_ ?_
                  rotate_left
                  ·intro w'
                   go_simp
                   with_reducible rfl
                  rotate_left
                  ·simp only [Act.put, sI_, s0_, sS_, i64_w, i32_w]
                   rfl
                  refine pure_ (i := 11) (N := some 80) (v := ?_) (a' := ?_) #[y_, y_, y_, y_, y_, y_, y_, y_, n_, y_, y_, y_, n_, n_, n_, n_] rfl rfl (any_of HT_.out (by kernel_rfl)) (fun _ _ _ h => h) (Or.inl ⟨by rfl, ?_⟩) ?_ ?_
                  rotate_left
                  ·intro w'
                   go_simp
                   with_reducible rfl
                  rotate_left
                  ·simp only [Act.put, sI_, s0_, sS_, i64_w, i32_w]
                   rfl
                  refine pure_ (i := 12) (N := some 81) (v := ?_) (a' := ?_) #[y_, y_, y_, y_, y_, y_, y_, y_, n_, y_, y_, y_, y_, n_, n_, n_] rfl rfl (any_of HT_.out (by kernel_rfl)) (fun _ _ _ h => h) (Or.inl ⟨by rfl, ?_⟩) ?_ ?_
                  rotate_left
                  ·intro w'
                   go_simp
                   with_reducible rfl
                  rotate_left
                  ·simp only [Act.put, sI_, s0_, sS_, i64_w, i32_w]
                   rfl
                  refine take_ (i := 8) (N := some 77) (v := ?_) (a' := ?_) #[y_, y_, y_, y_, y_, y_, y_, y_, y_, y_, y_, y_, y_, n_, n_, n_] rfl rfl (take_ofW HT_.out HW_.out (by kernel_rfl)) (fun _ _ _ h => h) (Or.inl ⟨by rfl, ?_⟩) hHeld ?_ ?_
                  rotate_left
                  ·rintro w' ⟨s0, s1, s2, s3, s4, s5⟩
                   go_simp
                   with_reducible rfl
                  rotate_left
                  ·simp only [Act.put, sI_, s0_, sS_, i64_w, i32_w]
                   rfl
                  refine take_ (i := 13) (N := some 82) (v := ?_) (a' := ?_) #[y_, y_, y_, y_, y_, y_, y_, y_, y_, y_, y_, y_, y_, y_, n_, n_] rfl rfl (take_ofW HT_.out HW_.out (by kernel_rfl)) (fun _ _ _ h => h) (Or.inl ⟨by rfl, ?_⟩) hHeld ?_ ?_
                  rotate_left
                  ·rintro w' ⟨s0, s1, s2, s3, s4, s5⟩
                   go_simp
                   with_reducible rfl
                  rotate_left
                  ·simp only [Act.put, sI_, s0_, sS_, i64_w, i32_w]
                   rfl
                  refine pure_ (i := 14) (N := some 83) (v := ?_) (a' := ?_) #[y_, y_, y_, y_, y_, y_, y_, y_, y_, y_, y_, y_, y_, y_, y_, n_] rfl rfl (any_of HT_.out (by kernel_rfl)) (fun _ _ _ h => h) (Or.inl ⟨by rfl, ?_⟩) ?_ ?_
                  rotate_left
                  ·intro w'
                   go_simp
                   with_reducible rfl
                  rotate_left
                  ·simp only [Act.put, sI_, s0_, sS_, i64_w, i32_w]
                   rfl
                  refine pure_ (i := 15) (N := some 84) (v := ?_) (a' := ?_) #[y_, y_, y_, y_, y_, y_, y_, y_, y_, y_, y_, y_, y_, y_, y_, y_] rfl rfl (any_of HT_.out (by kernel_rfl)) (fun _ _ _ h => h) (Or.inl ⟨by rfl, ?_⟩) ?_ ?_
                  rotate_left
                  ·intro w'
                   go_simp
                   with_reducible rfl
                  rotate_left
                  ·simp only [Act.put, sI_, s0_, sS_, i64_w, i32_w]
                   rfl
                  refine done_ (done_of HT_.out (by kernel_rfl)) ?_
                  have hcz48_0 : w47.cell? ⟨gb215, 0, none⟩ = some (.int .i64 t211) := (blk_cell BK215.out 0).trans rfl
                  have hcz48_1 : w47.cell? ⟨gb215, 1, none⟩ = some (.int .i64 t212) := (blk_cell BK215.out 1).trans rfl
                  have hfz48_0 := blk_frozen BK215.out 0
                  have hfz48_1 := blk_frozen BK215.out 1
                  try go_wp2_with (first | ((with_reducible refine gate_builtin (b := .append) (xs := #[.tmp 107, .tmp 109]) rfl ?_); at_builtin; refine Kd.R_append k39 (w0 := w) w.heap.size rfl (.tmp 107) (.tmp 109) 23 39 (.agg #[(.int .i64 0), (.int .i64 0)]) 16 rfl Try.underlying23 info39 rfl (by decide) (by omega) u13 x13_2 (⟨t211, t212⟩ : S39) [.int .i64 t211, .int .i64 t212] (fun k_ => k_ ≠ gb213 ∧ k_ ≠ gb215) (fun _ => False) rfl rfl ?aP (fun _ hk => hk.elim) ?aF ?aO ?aB ?aS ?aL ?_; (case aP => exact k39_mkM _ _ _ (⟨t211, t212⟩ : S39)); (case aB => exact (by repeat (first | (with_reducible first | exact HB.out | apply below_alloc | apply pw_below_drewN | apply below_drew1 | refine below_set ?_ GE213.out | refine below_set ?_ GE215.out) | exact HB.out))); (case aF => exact (fun k_ hk => ⟨Kd.freshB (g := gb213) (o := .cells #[.int .i64 t211, .int .i64 t212] 39 (0, 0)) (by (with_reducible repeat (first | refine blk_drewN ?_ _ | refine blk_drew ?_ | refine blk_alloc ?_ _)); exact BK213.out) k_ hk, Kd.freshB (g := gb215) (o := .cells #[.int .i64 t211, .int .i64 t212] 39 (0, 0)) (by (with_reducible repeat (first | refine blk_drewN ?_ _ | refine blk_drew ?_ | refine blk_alloc ?_ _)); exact BK215.out) k_ hk⟩)); (case aO => exact (by (with_reducible repeat (first | apply Kd.R_alloc | apply Kd.R_drewN | apply Kd.R_drew)); exact HO_13.out)); (case aS => exact (below_size (by repeat (first | (with_reducible first | exact HB.out | apply below_alloc | apply pw_below_drewN | apply below_drew1 | refine below_set ?_ GE213.out | refine below_set ?_ GE215.out) | exact HB.out)))); (case aL => have := LMc41.out; omega); intro v225 w49 ho hb hg hat; rw [← Ny224.out] at ho; have n0_ := Aside0.mk (blk_grown (g := gb213) (o := .cells #[.int .i64 t211, .int .i64 t212] 39 (0, 0)) (by (with_reducible repeat (first | refine blk_drewN ?_ _ | refine blk_drew ?_ | refine blk_alloc ?_ _)); exact BK213.out) hg (Kd.R_away HO_13.out (fun _ hk => hk.1))); have n1_ := Aside0.mk (blk_grown (g := gb215) (o := .cells #[.int .i64 t211, .int .i64 t212] 39 (0, 0)) (by (with_reducible repeat (first | refine blk_drewN ?_ _ | refine blk_drew ?_ | refine blk_alloc ?_ _)); exact BK215.out) hg (Kd.R_away HO_13.out (fun _ hk => hk.2))); have n2_ := Aside0.mk (hb); have n3_ := Aside0.mk (ho); clear BK213; clear BK215; clear HB; clear HO_13; have BK213 := n0_; have BK215 := n1_; have HB := n2_; have HO226 := n3_; clear n0_ n1_ n2_ n3_; clear ho hb hg hat))
                  go_roundg k2
                  case measure => have := HK1.out; have := HK2.out; omega
                  case rel => exact ⟨(y224), (wrap64 (x14_2 + 1)), (by first | rfl | (simp; done) | (simp [*]; done)), H', ⟨by have := HK1.out; have := HK2.out; omega⟩, ⟨by (with_reducible repeat (first | apply Kd.R_alloc | apply Kd.R_drewN | apply Kd.R_drew)); exact Kd.R_mono HO226.out (fun _ hk => hk.1)⟩, ⟨by (with_reducible repeat (first | refine blk_drewN ?_ _ | refine blk_drew ?_ | refine blk_alloc ?_ _)); exact BK213.out⟩, ⟨by repeat (first | (with_reducible first | exact HB.out | apply below_alloc | apply pw_below_drewN | apply below_drew1 | refine below_set ?_ GE213.out | refine below_set ?_ GE215.out) | exact HB.out)⟩⟩
                 ·rw [if_neg c41] at H
                  exact absurd H (by simp)
               ·rw [if_neg c25] at H
                exact absurd H (by simp)
              ·rw [if_neg c24] at H
               exact absurd H (by simp)
             ·rw [if_neg c23] at H
              exact absurd H (by simp)
            ·rw [if_neg c22] at H
             have c22b0 : decide (a2 < x14_2) = false := decide_eq_false c22
             clear c22
             by_cases c50 : x13_2.length < 8796093022208
             ·rw [if_pos c50] at H
              have LMc50 := Aside0.mk c50
              clear c50
              obtain ⟨y227, hy227⟩ : ∃ y_ : List (S39), y_ = (x13_2 ++ [(⟨t211, t212⟩ : S39)]) := ⟨_, rfl⟩
              replace H : (cohousingref28_equation.l1 k2 l0 l1 a2 x9_1 x10_1 y227 (wrap64 (x14_2 + 1)) t211 t212) = some r := by first | (rw [hy227]; with_reducible exact H) | (have H2_ := (Option.bind_some _ _).symm.trans H; rw [hy227]; with_reducible exact H2_) | (have H2_ := (Option.bind_some _ _).symm.trans H; with_reducible exact H2_) | with_reducible exact H | (rw [hy227]; exact H) | exact H
              have Ny227 := Aside0.mk hy227
              clear hy227
              have H' := Aside0.mk H
              clear H
              have p214 : 0 ≤ (x14_2 : Int) := of_decide_eq_true (by first | (with_reducible assumption) | assumption)
              have q214 : x14_2 < (l1.length : Int) := of_decide_eq_true (by first | (with_reducible assumption) | assumption)
              obtain ⟨ad214, e214, hx214_0, hx214_1⟩ := at_T39 HR1.out x14_2 p214 q214
              obtain rfl : ad209 = ad214 := (by injection e214)
              replace hx214_0 := (HB.out.cell (World.block_lt_of_cell? w _ hx214_0)).trans hx214_0
              replace hx214_1 := (HB.out.cell (World.block_lt_of_cell? w _ hx214_1)).trans hx214_1
              replace p214 := eq_true p214
              replace q214 := eq_true q214
              try go_wp2_with (first | ((with_reducible refine gate_dst (N := 15) rfl ?_); refine box_event ?hg (N := 15) ?hd (cs := #[.int .i64 0, .int .i64 0]) (t := 39) ?hr ?_; (case hd => rfl); (case hg => rfl); (case hr => first | (go_simp; done) | (go_simp; rfl)); intro gb215 hg w51 hbox hb; have n0_ := Aside0.mk (Kd.R_below (Kd.R_elderB (by (with_reducible repeat (first | apply Kd.R_alloc | apply Kd.R_drewN | apply Kd.R_drew)); exact HO_13.out) gb215 (Nat.le_of_eq hg.symm)) hb); have n1_ := Aside0.mk (blk_below (g := gb213) (o := .cells #[.int .i64 t211, .int .i64 t212] 39 (0, 0)) (by (with_reducible repeat (first | refine blk_drewN ?_ _ | refine blk_drew ?_ | refine blk_alloc ?_ _)); exact BK213.out) hb); have n2_ := Aside0.mk (below_step (by repeat (first | (with_reducible first | exact HB.out | apply below_alloc | apply pw_below_drewN | apply below_drew1 | refine below_set ?_ GE213.out) | exact HB.out)) hb); have n3_ := Aside0.mk (hbox); have n4_ := Aside0.mk ((by rw [hg]; exact (below_size (by repeat (first | (with_reducible first | exact HB.out | apply below_alloc | apply pw_below_drewN | apply below_drew1 | refine below_set ?_ GE213.out) | exact HB.out))) : w.heap.size ≤ gb215)); have n5_ := Aside0.mk ((by rw [hg]; exact (below_size (by repeat (first | (with_reducible first | exact HB.out | apply below_alloc | apply pw_below_drewN | apply below_drew1 | refine below_set ?_ GE213.out) | exact HB.out))) : w.heap.size ≤ gb215)); have n6_ := Aside0.mk ((by rw [hg]; exact Nat.ne_of_lt (blk_lt (g := gb213) (o := .cells #[.int .i64 t211, .int .i64 t212] 39 (0, 0)) (by (with_reducible repeat (first | refine blk_drewN ?_ _ | refine blk_drew ?_ | refine blk_alloc ?_ _)); exact BK213.out)) : gb213 ≠ gb215)); have n7_ := Aside0.mk ((by rw [hg]; exact Nat.ne_of_gt (blk_lt (g := gb213) (o := .cells #[.int .i64 t211, .int .i64 t212] 39 (0, 0)) (by (with_reducible repeat (first | refine blk_drewN ?_ _ | refine blk_drew ?_ | refine blk_alloc ?_ _)); exact BK213.out)) : gb215 ≠ gb213)); clear HO_13; clear BK213; clear HB; have HO_13 := n0_; have BK213 := n1_; have HB := n2_; have BK215 := n3_; have GW215 := n4_; have GE215 := n5_; have NB213_215 := n6_; have NB215_213 := n7_; clear n0_ n1_ n2_ n3_ n4_ n5_ n6_ n7_; clear hb hbox hg; have hnb52 := NB215_213.out; have hnc52 := NB213_215.out; have hcz53_0 : w51.cell? ⟨gb215, 0, none⟩ = some (.int .i64 0) := (blk_cell BK215.out 0).trans rfl; have hcz53_1 : w51.cell? ⟨gb215, 1, none⟩ = some (.int .i64 0) := (blk_cell BK215.out 1).trans rfl; have hfz53_0 := blk_frozen BK215.out 0; have hfz53_1 := blk_frozen BK215.out 1; have hcz54_0 : w51.cell? ⟨gb213, 0, none⟩ = some (.int .i64 t211) := (blk_cell BK213.out 0).trans rfl; have hcz54_1 : w51.cell? ⟨gb213, 1, none⟩ = some (.int .i64 t212) := (blk_cell BK213.out 1).trans rfl; have hfz54_0 := blk_frozen BK213.out 0; have hfz54_1 := blk_frozen BK213.out 1))
              have n0_ : Aside0 (Kd.R k39 39 ((((w51.setCell ⟨gb215, 0, none⟩ (.int .i64 ((rd_T39 l1 x14_2).f0))).setCell ⟨gb215, 1, none⟩ (.int .i64 ((rd_T39 l1 x14_2).f1))).setCell ⟨gb215, 0, none⟩ (.int .i64 t211)).setCell ⟨gb215, 1, none⟩ (.int .i64 t212)) w.heap.size (fun k_ => k_ ≠ gb213 ∧ k_ ≠ gb215) u13 x13_2) := ⟨by (with_reducible repeat (first | apply Kd.R_alloc | apply Kd.R_drewN | apply Kd.R_drew)); exact Kd.R_mono (Kd.R_far (p := ⟨gb215, 1, none⟩) (Kd.R_far (p := ⟨gb215, 0, none⟩) (Kd.R_far (p := ⟨gb215, 1, none⟩) (Kd.R_far (p := ⟨gb215, 0, none⟩) (Kd.R_mono HO_13.out (fun k_ hk => (⟨hk, hk.2⟩ : _ ∧ k_ ≠ gb215))) (fun _ hk => hk.2) (.int .i64 ((rd_T39 l1 x14_2).f0))) (fun _ hk => hk.2) (.int .i64 ((rd_T39 l1 x14_2).f1))) (fun _ hk => hk.2) (.int .i64 t211)) (fun _ hk => hk.2) (.int .i64 t212)) (fun _ hk => ⟨hk.1.1, hk.1.2⟩)⟩
              have n1_ : Aside0 (((((w51.setCell ⟨gb215, 0, none⟩ (.int .i64 ((rd_T39 l1 x14_2).f0))).setCell ⟨gb215, 1, none⟩ (.int .i64 ((rd_T39 l1 x14_2).f1))).setCell ⟨gb215, 0, none⟩ (.int .i64 t211)).setCell ⟨gb215, 1, none⟩ (.int .i64 t212)).heap[gb213]? = some (.cells #[.int .i64 t211, .int .i64 t212] 39 (0, 0))) := ⟨by (with_reducible repeat (first | refine blk_drewN ?_ _ | refine blk_drew ?_ | refine blk_alloc ?_ _)); refine blk_far ?_ NB213_215.out _; (with_reducible repeat (first | refine blk_drewN ?_ _ | refine blk_drew ?_ | refine blk_alloc ?_ _)); refine blk_far ?_ NB213_215.out _; (with_reducible repeat (first | refine blk_drewN ?_ _ | refine blk_drew ?_ | refine blk_alloc ?_ _)); refine blk_far ?_ NB213_215.out _; (with_reducible repeat (first | refine blk_drewN ?_ _ | refine blk_drew ?_ | refine blk_alloc ?_ _)); refine blk_far ?_ NB213_215.out _; (with_reducible repeat (first | refine blk_drewN ?_ _ | refine blk_drew ?_ | refine blk_alloc ?_ _)); exact BK213.out⟩
              have n2_ : Aside0 (((((w51.setCell ⟨gb215, 0, none⟩ (.int .i64 ((rd_T39 l1 x14_2).f0))).setCell ⟨gb215, 1, none⟩ (.int .i64 ((rd_T39 l1 x14_2).f1))).setCell ⟨gb215, 0, none⟩ (.int .i64 t211)).setCell ⟨gb215, 1, none⟩ (.int .i64 t212)).heap[gb215]? = some (.cells #[.int .i64 t211, .int .i64 t212] 39 (0, 0))) := ⟨by (with_reducible repeat (first | refine blk_drewN ?_ _ | refine blk_drew ?_ | refine blk_alloc ?_ _)); refine blk_put (cs := #[.int .i64 t211, .int .i64 ((rd_T39 l1 x14_2).f1)]) ?_ 1 _ rfl; (with_reducible repeat (first | refine blk_drewN ?_ _ | refine blk_drew ?_ | refine blk_alloc ?_ _)); refine blk_put (cs := #[.int .i64 ((rd_T39 l1 x14_2).f0), .int .i64 ((rd_T39 l1 x14_2).f1)]) ?_ 0 _ rfl; (with_reducible repeat (first | refine blk_drewN ?_ _ | refine blk_drew ?_ | refine blk_alloc ?_ _)); refine blk_put (cs := #[.int .i64 ((rd_T39 l1 x14_2).f0), .int .i64 0]) ?_ 1 _ rfl; (with_reducible repeat (first | refine blk_drewN ?_ _ | refine blk_drew ?_ | refine blk_alloc ?_ _)); refine blk_put (cs := #[.int .i64 0, .int .i64 0]) ?_ 0 _ rfl; (with_reducible repeat (first | refine blk_drewN ?_ _ | refine blk_drew ?_ | refine blk_alloc ?_ _)); exact BK215.out⟩
              have n3_ : Aside0 (Below w.heap.size w ((((w51.setCell ⟨gb215, 0, none⟩ (.int .i64 ((rd_T39 l1 x14_2).f0))).setCell ⟨gb215, 1, none⟩ (.int .i64 ((rd_T39 l1 x14_2).f1))).setCell ⟨gb215, 0, none⟩ (.int .i64 t211)).setCell ⟨gb215, 1, none⟩ (.int .i64 t212))) := ⟨by repeat (first | (with_reducible first | exact HB.out | apply below_alloc | apply pw_below_drewN | apply below_drew1 | refine below_set ?_ GE213.out | refine below_set ?_ GE215.out) | exact HB.out)⟩
              (try clear HO_13)
              (try clear BK213)
              (try clear BK215)
              (try clear HB)
              generalize ((((w51.setCell ⟨gb215, 0, none⟩ (.int .i64 ((rd_T39 l1 x14_2).f0))).setCell ⟨gb215, 1, none⟩ (.int .i64 ((rd_T39 l1 x14_2).f1))).setCell ⟨gb215, 0, none⟩ (.int .i64 t211)).setCell ⟨gb215, 1, none⟩ (.int .i64 t212)) = w55 at n0_ n1_ n2_ n3_ ⊢
              have HO_13 := n0_
              have BK213 := n1_
              have BK215 := n2_
              have HB := n3_
              clear n0_ n1_ n2_ n3_
              have n0_ := Aside0.mk (Kd.R_drew HO_13.out)
              have n1_ := Aside0.mk (blk_drew BK213.out)
              have n2_ := Aside0.mk (blk_drew BK215.out)
              have n3_ := Aside0.mk (below_drew1 HB.out)
              clear HO_13
              clear BK213
              clear BK215
              clear HB
              have HO_13 := n0_
              have BK213 := n1_
              have BK215 := n2_
              have HB := n3_
              clear n0_ n1_ n2_ n3_
              refine start_ (n := 16) (S := fun w' => True) (ds := []) #[n_, n_, n_, n_, n_, n_, n_, n_, n_, n_, n_, n_, n_, n_, n_, n_] (by kernel_rfl) rfl rfl trivial (fun hHeld => ?_); refine with_tabW cohousingref28_equation.tab16 cohousingref28_equation.bits16 (fun HT_ HW_ => ?_)
              generalize w55.drew = w56 at HO_13 BK213 BK215 HB hHeld ⊢
              refine pure_ (i := 0) (N := some 69) (v := ?_) (a' := ?_) #[y_, n_, n_, n_, n_, n_, n_, n_, n_, n_, n_, n_, n_, n_, n_, n_] rfl rfl (any_of HT_.out (by kernel_rfl)) (fun _ _ _ h => h) (Or.inl ⟨by rfl, ?_⟩) ?_ ?_
              rotate_left
              ·intro w'
               go_simp
               with_reducible rfl
              rotate_left
              ·simp only [Act.put, sI_, s0_, sS_, i64_w, i32_w]
               rfl
              refine pure_ (i := 1) (N := some 70) (v := ?_) (a' := ?_) #[y_, y_, n_, n_, n_, n_, n_, n_, n_, n_, n_, n_, n_, n_, n_, n_] rfl rfl (any_of HT_.out (by kernel_rfl)) (fun _ _ _ h => h) (Or.inl ⟨by rfl, ?_⟩) ?_ ?_
              rotate_left
              ·intro w'
               go_simp
               with_reducible rfl
              rotate_left
              ·simp only [Act.put, sI_, s0_, sS_, i64_w, i32_w]
               rfl
              refine pure_ (i := 2) (N := some 71) (v := ?_) (a' := ?_) #[y_, y_, y_, n_, n_, n_, n_, n_, n_, n_, n_, n_, n_, n_, n_, n_] rfl rfl (any_of HT_.out (by kernel_rfl)) (fun _ _ _ h => h) (Or.inl ⟨by rfl, ?_⟩) ?_ ?_
              rotate_left
              ·intro w'
               go_simp
               with_reducible rfl
              rotate_left
              ·simp only [Act.put, sI_, s0_, sS_, i64_w, i32_w]
               rfl
              refine pure_ (i := 3) (N := some 72) (v := ?_) (a' := ?_) #[y_, y_, y_, y_, n_, n_, n_, n_, n_, n_, n_, n_, n_, n_, n_, n_] rfl rfl (any_of HT_.out (by kernel_rfl)) (fun _ _ _ h => h) (Or.inl ⟨by rfl, ?_⟩) ?_ ?_
              rotate_left
              ·intro w'
               go_simp
               with_reducible rfl
              rotate_left
              ·simp only [Act.put, sI_, s0_, sS_, i64_w, i32_w]
               rfl
              refine pure_ (i := 4) (N := some 73) (v := undef) (a' := ?_) #[y_, y_, y_, y_, y_, n_, n_, n_, n_, n_, n_, n_, n_, n_, n_, n_] rfl rfl (any_of HT_.out (by kernel_rfl)) (fun _ _ _ h => h) (Or.inr ⟨by rfl, rfl⟩) ?_ ?_
              rotate_left
              ·simp only [Act.put, sI_, s0_, sS_, i64_w, i32_w]
               rfl
              refine pure_ (i := 5) (N := some 74) (v := undef) (a' := ?_) #[y_, y_, y_, y_, y_, y_, n_, n_, n_, n_, n_, n_, n_, n_, n_, n_] rfl rfl (any_of HT_.out (by kernel_rfl)) (fun _ _ _ h => h) (Or.inr ⟨by rfl, rfl⟩) ?_ ?_
              rotate_left
              ·simp only [Act.put, sI_, s0_, sS_, i64_w, i32_w]
               rfl
              refine pure_ (i := 6) (N := some 75) (v := undef) (a' := ?_) #[y_, y_, y_, y_, y_, y_, y_, n_, n_, n_, n_, n_, n_, n_, n_, n_] rfl rfl (any_of HT_.out (by kernel_rfl)) (fun _ _ _ h => h) (Or.inr ⟨by rfl, rfl⟩) ?_ ?_
              rotate_left
              ·simp only [Act.put, sI_, s0_, sS_, i64_w, i32_w]
               rfl
              refine pure_ (i := 7) (N := some 76) (v := undef) (a' := ?_) #[y_, y_, y_, y_, y_, y_, y_, y_, n_, n_, n_, n_, n_, n_, n_, n_] rfl rfl (any_of HT_.out (by kernel_rfl)) (fun _ _ _ h => h) (Or.inr ⟨by rfl, rfl⟩) ?_ ?_
              rotate_left
              ·simp only [Act.put, sI_, s0_, sS_, i64_w, i32_w]
               rfl
              refine pure_ (i := 8) (N := some 77) (v := undef) (a' := ?_) #[y_, y_, y_, y_, y_, y_, y_, y_, y_, n_, n_, n_, n_, n_, n_, n_] rfl rfl (any_of HT_.out (by kernel_rfl)) (fun _ _ _ h => h) (Or.inr ⟨by rfl, rfl⟩) ?_ ?_
              rotate_left
              ·simp only [Act.put, sI_, s0_, sS_, i64_w, i32_w]
               rfl
              refine pure_ (i := 9) (N := some 78) (v := undef) (a' := ?_) #[y_, y_, y_, y_, y_, y_, y_, y_, y_, y_, n_, n_, n_, n_, n_, n_] rfl rfl (any_of HT_.out (by kernel_rfl)) (fun _ _ _ h => h) (Or.inr ⟨by rfl, rfl⟩) ?_ ?_
              rotate_left
              ·simp only [Act.put, sI_, s0_, sS_, i64_w, i32_w]
               rfl
              refine pure_ (i := 10) (N := some 79) (v := undef) (a' := ?_) #[y_, y_, y_, y_, y_, y_, y_, y_, y_, y_, y_, n_, n_, n_, n_, n_] rfl rfl (any_of HT_.out (by kernel_rfl)) (fun _ _ _ h => h) (Or.inr ⟨by rfl, rfl⟩) ?_ ?_
              rotate_left
              ·simp only [Act.put, sI_, s0_, sS_, i64_w, i32_w]
               rfl
              refine pure_ (i := 11) (N := some 80) (v := undef) (a' := ?_) #[y_, y_, y_, y_, y_, y_, y_, y_, y_, y_, y_, y_, n_, n_, n_, n_] rfl rfl (any_of HT_.out (by kernel_rfl)) (fun _ _ _ h => h) (Or.inr ⟨by rfl, rfl⟩) ?_ ?_
              rotate_left
              ·simp only [Act.put, sI_, s0_, sS_, i64_w, i32_w]
               rfl
              refine pure_ (i := 12) (N := some 81) (v := undef) (a' := ?_) #[y_, y_, y_, y_, y_, y_, y_, y_, y_, y_, y_, y_, y_, n_, n_, n_] rfl rfl (any_of HT_.out (by kernel_rfl)) (fun _ _ _ h => h) (Or.inr ⟨by rfl, rfl⟩) ?_ ?_
              rotate_left
              ·simp only [Act.put, sI_, s0_, sS_, i64_w, i32_w]
               rfl
              refine pure_ (i := 13) (N := some 82) (v := undef) (a' := ?_) #[y_, y_, y_, y_, y_, y_, y_, y_, y_, y_, y_, y_, y_, y_, n_, n_] rfl rfl (any_of HT_.out (by kernel_rfl)) (fun _ _ _ h => h) (Or.inr ⟨by rfl, rfl⟩) ?_ ?_
              rotate_left
              ·simp only [Act.put, sI_, s0_, sS_, i64_w, i32_w]
               rfl
              refine pure_ (i := 14) (N := some 83) (v := undef) (a' := ?_) #[y_, y_, y_, y_, y_, y_, y_, y_, y_, y_, y_, y_, y_, y_, y_, n_] rfl rfl (any_of HT_.out (by kernel_rfl)) (fun _ _ _ h => h) (Or.inr ⟨by rfl, rfl⟩) ?_ ?_
              rotate_left
              ·simp only [Act.put, sI_, s0_, sS_, i64_w, i32_w]
               rfl
              refine pure_ (i := 15) (N := some 84) (v := ?_) (a' := ?_) #[y_, y_, y_, y_, y_, y_, y_, y_, y_, y_, y_, y_, y_, y_, y_, y_] rfl rfl (any_of HT_.out (by kernel_rfl)) (fun _ _ _ h => h) (Or.inl ⟨by rfl, ?_⟩) ?_ ?_
              rotate_left
              ·intro w'
               go_simp
               with_reducible rfl
              rotate_left
              ·simp only [Act.put, sI_, s0_, sS_, i64_w, i32_w]
               rfl
              refine done_ (done_of HT_.out (by kernel_rfl)) ?_
              have hcz57_0 : w56.cell? ⟨gb215, 0, none⟩ = some (.int .i64 t211) := (blk_cell BK215.out 0).trans rfl
              have hcz57_1 : w56.cell? ⟨gb215, 1, none⟩ = some (.int .i64 t212) := (blk_cell BK215.out 1).trans rfl
              have hfz57_0 := blk_frozen BK215.out 0
              have hfz57_1 := blk_frozen BK215.out 1
              try go_wp2_with (first | ((with_reducible refine gate_builtin (b := .append) (xs := #[.tmp 107, .tmp 109]) rfl ?_); at_builtin; refine Kd.R_append k39 (w0 := w) w.heap.size rfl (.tmp 107) (.tmp 109) 23 39 (.agg #[(.int .i64 0), (.int .i64 0)]) 16 rfl Try.underlying23 info39 rfl (by decide) (by omega) u13 x13_2 (⟨t211, t212⟩ : S39) [.int .i64 t211, .int .i64 t212] (fun k_ => k_ ≠ gb213 ∧ k_ ≠ gb215) (fun _ => False) rfl rfl ?aP (fun _ hk => hk.elim) ?aF ?aO ?aB ?aS ?aL ?_; (case aP => exact k39_mkM _ _ _ (⟨t211, t212⟩ : S39)); (case aB => exact (by repeat (first | (with_reducible first | exact HB.out | apply below_alloc | apply pw_below_drewN | apply below_drew1 | refine below_set ?_ GE213.out | refine below_set ?_ GE215.out) | exact HB.out))); (case aF => exact (fun k_ hk => ⟨Kd.freshB (g := gb213) (o := .cells #[.int .i64 t211, .int .i64 t212] 39 (0, 0)) (by (with_reducible repeat (first | refine blk_drewN ?_ _ | refine blk_drew ?_ | refine blk_alloc ?_ _)); exact BK213.out) k_ hk, Kd.freshB (g := gb215) (o := .cells #[.int .i64 t211, .int .i64 t212] 39 (0, 0)) (by (with_reducible repeat (first | refine blk_drewN ?_ _ | refine blk_drew ?_ | refine blk_alloc ?_ _)); exact BK215.out) k_ hk⟩)); (case aO => exact (by (with_reducible repeat (first | apply Kd.R_alloc | apply Kd.R_drewN | apply Kd.R_drew)); exact HO_13.out)); (case aS => exact (below_size (by repeat (first | (with_reducible first | exact HB.out | apply below_alloc | apply pw_below_drewN | apply below_drew1 | refine below_set ?_ GE213.out | refine below_set ?_ GE215.out) | exact HB.out)))); (case aL => have := LMc50.out; omega); intro v228 w58 ho hb hg hat; rw [← Ny227.out] at ho; have n0_ := Aside0.mk (blk_grown (g := gb213) (o := .cells #[.int .i64 t211, .int .i64 t212] 39 (0, 0)) (by (with_reducible repeat (first | refine blk_drewN ?_ _ | refine blk_drew ?_ | refine blk_alloc ?_ _)); exact BK213.out) hg (Kd.R_away HO_13.out (fun _ hk => hk.1))); have n1_ := Aside0.mk (blk_grown (g := gb215) (o := .cells #[.int .i64 t211, .int .i64 t212] 39 (0, 0)) (by (with_reducible repeat (first | refine blk_drewN ?_ _ | refine blk_drew ?_ | refine blk_alloc ?_ _)); exact BK215.out) hg (Kd.R_away HO_13.out (fun _ hk => hk.2))); have n2_ := Aside0.mk (hb); have n3_ := Aside0.mk (ho); clear BK213; clear BK215; clear HB; clear HO_13; have BK213 := n0_; have BK215 := n1_; have HB := n2_; have HO229 := n3_; clear n0_ n1_ n2_ n3_; clear ho hb hg hat))
              go_roundg k2
              case measure => have := HK1.out; have := HK2.out; omega
              case rel => exact ⟨(y227), (wrap64 (x14_2 + 1)), (by first | rfl | (simp; done) | (simp [*]; done)), H', ⟨by have := HK1.out; have := HK2.out; omega⟩, ⟨by (with_reducible repeat (first | apply Kd.R_alloc | apply Kd.R_drewN | apply Kd.R_drew)); exact Kd.R_mono HO229.out (fun _ hk => hk.1)⟩, ⟨by (with_reducible repeat (first | refine blk_drewN ?_ _ | refine blk_drew ?_ | refine blk_alloc ?_ _)); exact BK213.out⟩, ⟨by repeat (first | (with_reducible first | exact HB.out | apply below_alloc | apply pw_below_drewN | apply below_drew1 | refine below_set ?_ GE213.out | refine below_set ?_ GE215.out) | exact HB.out)⟩⟩
             ·rw [if_neg c50] at H
              exact absurd H (by simp)
           ·rw [if_neg c21] at H
            have c21b0 : (x14_2 == a2) = false := beq_eq_false_iff_ne.mpr c21
            have c21b1 : (x14_2 != a2) = true := bne_iff_ne.mpr c21
            by_cases c59 : x14_2 > a2
            ·rw [if_pos c59] at H
             have c59b0 : decide (a2 < x14_2) = true := decide_eq_true c59
             clear c59
             by_cases c60 : x14_2 < (l0.length : Int)
             ·rw [if_pos c60] at H
              have c60b0 : decide (x14_2 < (l0.length : Int)) = true := decide_eq_true c60
              clear c60
              by_cases c61 : 0 ≤ a2
              ·rw [if_pos c61] at H
               have c61b0 : decide (0 ≤ a2) = true := decide_eq_true c61
               clear c61
               by_cases c62 : a2 < (l0.length : Int)
               ·rw [if_pos c62] at H
                have c62b0 : decide (a2 < (l0.length : Int)) = true := decide_eq_true c62
                clear c62
                by_cases c63 : ((rd_T44 l0 x14_2).f1) = ((rd_T44 l0 a2).f0)
                ·rw [if_pos c63] at H
                 have c63b0 : (((rd_T44 l0 x14_2).f1) == ((rd_T44 l0 a2).f0)) = true := beq_iff_eq.mpr c63
                 have c63b1 : (((rd_T44 l0 x14_2).f1) != ((rd_T44 l0 a2).f0)) = false := bne_eq_false_iff_eq.mpr c63
                 clear c63
                 replace H := Option.bind_eq_some_iff.mp H
                 obtain ⟨⟨t233, t234⟩, A640, H⟩ := H
                 replace H : (if x13_2.length < 8796093022208 then (cohousingref28_equation.l1 k2 l0 l1 a2 x9_1 x10_1 (x13_2 ++ [(⟨t233, t234⟩ : S39)]) (wrap64 (x14_2 + 1)) t211 t212) else (none)) = some r := H
                 have A64 := Aside0.mk A640
                 clear A640
                 by_cases c65 : x13_2.length < 8796093022208
                 ·rw [if_pos c65] at H
                  have LMc65 := Aside0.mk c65
                  clear c65
                  obtain ⟨y235, hy235⟩ : ∃ y_ : List (S39), y_ = (x13_2 ++ [(⟨t233, t234⟩ : S39)]) := ⟨_, rfl⟩
                  replace H : (cohousingref28_equation.l1 k2 l0 l1 a2 x9_1 x10_1 y235 (wrap64 (x14_2 + 1)) t211 t212) = some r := by first | (rw [hy235]; with_reducible exact H) | (have H2_ := (Option.bind_some _ _).symm.trans H; rw [hy235]; with_reducible exact H2_) | (have H2_ := (Option.bind_some _ _).symm.trans H; with_reducible exact H2_) | with_reducible exact H | (rw [hy235]; exact H) | exact H
                  have Ny235 := Aside0.mk hy235
                  clear hy235
                  have H' := Aside0.mk H
                  clear H
                  have p214 : 0 ≤ (x14_2 : Int) := of_decide_eq_true (by first | (with_reducible assumption) | assumption)
                  have q214 : x14_2 < (l1.length : Int) := of_decide_eq_true (by first | (with_reducible assumption) | assumption)
                  obtain ⟨ad214, e214, hx214_0, hx214_1⟩ := at_T39 HR1.out x14_2 p214 q214
                  obtain rfl : ad209 = ad214 := (by injection e214)
                  replace hx214_0 := (HB.out.cell (World.block_lt_of_cell? w _ hx214_0)).trans hx214_0
                  replace hx214_1 := (HB.out.cell (World.block_lt_of_cell? w _ hx214_1)).trans hx214_1
                  replace p214 := eq_true p214
                  replace q214 := eq_true q214
                  try go_wp2_with (first | ((with_reducible refine gate_dst (N := 15) rfl ?_); refine box_event ?hg (N := 15) ?hd (cs := #[.int .i64 0, .int .i64 0]) (t := 39) ?hr ?_; (case hd => rfl); (case hg => rfl); (case hr => first | (go_simp; done) | (go_simp; rfl)); intro gb215 hg w66 hbox hb; have n0_ := Aside0.mk (Kd.R_below (Kd.R_elderB (by (with_reducible repeat (first | apply Kd.R_alloc | apply Kd.R_drewN | apply Kd.R_drew)); exact HO_13.out) gb215 (Nat.le_of_eq hg.symm)) hb); have n1_ := Aside0.mk (blk_below (g := gb213) (o := .cells #[.int .i64 t211, .int .i64 t212] 39 (0, 0)) (by (with_reducible repeat (first | refine blk_drewN ?_ _ | refine blk_drew ?_ | refine blk_alloc ?_ _)); exact BK213.out) hb); have n2_ := Aside0.mk (below_step (by repeat (first | (with_reducible first | exact HB.out | apply below_alloc | apply pw_below_drewN | apply below_drew1 | refine below_set ?_ GE213.out) | exact HB.out)) hb); have n3_ := Aside0.mk (hbox); have n4_ := Aside0.mk ((by rw [hg]; exact (below_size (by repeat (first | (with_reducible first | exact HB.out | apply below_alloc | apply pw_below_drewN | apply below_drew1 | refine below_set ?_ GE213.out) | exact HB.out))) : w.heap.size ≤ gb215)); have n5_ := Aside0.mk ((by rw [hg]; exact (below_size (by repeat (first | (with_reducible first | exact HB.out | apply below_alloc | apply pw_below_drewN | apply below_drew1 | refine below_set ?_ GE213.out) | exact HB.out))) : w.heap.size ≤ gb215)); have n6_ := Aside0.mk ((by rw [hg]; exact Nat.ne_of_lt (blk_lt (g := gb213) (o := .cells #[.int .i64 t211, .int .i64 t212] 39 (0, 0)) (by (with_reducible repeat (first | refine blk_drewN ?_ _ | refine blk_drew ?_ | refine blk_alloc ?_ _)); exact BK213.out)) : gb213 ≠ gb215)); have n7_ := Aside0.mk ((by rw [hg]; exact Nat.ne_of_gt (blk_lt (g := gb213) (o := .cells #[.int .i64 t211, .int .i64 t212] 39 (0, 0)) (by (with_reducible repeat (first | refine blk_drewN ?_ _ | refine blk_drew ?_ | refine blk_alloc ?_ _)); exact BK213.out)) : gb215 ≠ gb213)); clear HO_13; clear BK213; clear HB; have HO_13 := n0_; have BK213 := n1_; have HB := n2_; have BK215 := n3_; have GW215 := n4_; have GE215 := n5_; have NB213_215 := n6_; have NB215_213 := n7_; clear n0_ n1_ n2_ n3_ n4_ n5_ n6_ n7_; clear hb hbox hg; have hnb67 := NB215_213.out; have hnc67 := NB213_215.out; have hcz68_0 : w66.cell? ⟨gb215, 0, none⟩ = some (.int .i64 0) := (blk_cell BK215.out 0).trans rfl; have hcz68_1 : w66.cell? ⟨gb215, 1, none⟩ = some (.int .i64 0) := (blk_cell BK215.out 1).trans rfl; have hfz68_0 := blk_frozen BK215.out 0; have hfz68_1 := blk_frozen BK215.out 1))
                  have n0_ : Aside0 (Kd.R k39 39 ((w66.setCell ⟨gb215, 0, none⟩ (.int .i64 ((rd_T39 l1 x14_2).f0))).setCell ⟨gb215, 1, none⟩ (.int .i64 ((rd_T39 l1 x14_2).f1))) w.heap.size (fun k_ => k_ ≠ gb213 ∧ k_ ≠ gb215) u13 x13_2) := ⟨by (with_reducible repeat (first | apply Kd.R_alloc | apply Kd.R_drewN | apply Kd.R_drew)); exact Kd.R_mono (Kd.R_far (p := ⟨gb215, 1, none⟩) (Kd.R_far (p := ⟨gb215, 0, none⟩) (Kd.R_mono HO_13.out (fun k_ hk => (⟨hk, hk.2⟩ : _ ∧ k_ ≠ gb215))) (fun _ hk => hk.2) (.int .i64 ((rd_T39 l1 x14_2).f0))) (fun _ hk => hk.2) (.int .i64 ((rd_T39 l1 x14_2).f1))) (fun _ hk => ⟨hk.1.1, hk.1.2⟩)⟩
                  have n1_ : Aside0 (((w66.setCell ⟨gb215, 0, none⟩ (.int .i64 ((rd_T39 l1 x14_2).f0))).setCell ⟨gb215, 1, none⟩ (.int .i64 ((rd_T39 l1 x14_2).f1))).heap[gb213]? = some (.cells #[.int .i64 t211, .int .i64 t212] 39 (0, 0))) := ⟨by (with_reducible repeat (first | refine blk_drewN ?_ _ | refine blk_drew ?_ | refine blk_alloc ?_ _)); refine blk_far ?_ NB213_215.out _; (with_reducible repeat (first | refine blk_drewN ?_ _ | refine blk_drew ?_ | refine blk_alloc ?_ _)); refine blk_far ?_ NB213_215.out _; (with_reducible repeat (first | refine blk_drewN ?_ _ | refine blk_drew ?_ | refine blk_alloc ?_ _)); exact BK213.out⟩
                  have n2_ : Aside0 (((w66.setCell ⟨gb215, 0, none⟩ (.int .i64 ((rd_T39 l1 x14_2).f0))).setCell ⟨gb215, 1, none⟩ (.int .i64 ((rd_T39 l1 x14_2).f1))).heap[gb215]? = some (.cells #[.int .i64 ((rd_T39 l1 x14_2).f0), .int .i64 ((rd_T39 l1 x14_2).f1)] 39 (0, 0))) := ⟨by (with_reducible repeat (first | refine blk_drewN ?_ _ | refine blk_drew ?_ | refine blk_alloc ?_ _)); refine blk_put (cs := #[.int .i64 ((rd_T39 l1 x14_2).f0), .int .i64 0]) ?_ 1 _ rfl; (with_reducible repeat (first | refine blk_drewN ?_ _ | refine blk_drew ?_ | refine blk_alloc ?_ _)); refine blk_put (cs := #[.int .i64 0, .int .i64 0]) ?_ 0 _ rfl; (with_reducible repeat (first | refine blk_drewN ?_ _ | refine blk_drew ?_ | refine blk_alloc ?_ _)); exact BK215.out⟩
                  have n3_ : Aside0 (Below w.heap.size w ((w66.setCell ⟨gb215, 0, none⟩ (.int .i64 ((rd_T39 l1 x14_2).f0))).setCell ⟨gb215, 1, none⟩ (.int .i64 ((rd_T39 l1 x14_2).f1)))) := ⟨by repeat (first | (with_reducible first | exact HB.out | apply below_alloc | apply pw_below_drewN | apply below_drew1 | refine below_set ?_ GE213.out | refine below_set ?_ GE215.out) | exact HB.out)⟩
                  (try clear HO_13)
                  (try clear BK213)
                  (try clear BK215)
                  (try clear HB)
                  generalize ((w66.setCell ⟨gb215, 0, none⟩ (.int .i64 ((rd_T39 l1 x14_2).f0))).setCell ⟨gb215, 1, none⟩ (.int .i64 ((rd_T39 l1 x14_2).f1))) = w69 at n0_ n1_ n2_ n3_ ⊢
                  have HO_13 := n0_
                  have BK213 := n1_
                  have BK215 := n2_
                  have HB := n3_
                  clear n0_ n1_ n2_ n3_
                  have n0_ := Aside0.mk (Kd.R_drew HO_13.out)
                  have n1_ := Aside0.mk (blk_drew BK213.out)
                  have n2_ := Aside0.mk (blk_drew BK215.out)
                  have n3_ := Aside0.mk (below_drew1 HB.out)
                  clear HO_13
                  clear BK213
                  clear BK215
                  clear HB
                  have HO_13 := n0_
                  have BK213 := n1_
                  have BK215 := n2_
                  have HB := n3_
                  clear n0_ n1_ n2_ n3_
                  have p230 : 0 ≤ (x14_2 : Int) := of_decide_eq_true (by first | (with_reducible assumption) | assumption)
                  have q230 : x14_2 < (l0.length : Int) := of_decide_eq_true (by first | (with_reducible assumption) | assumption)
                  obtain ⟨ad230, e230, hx230_0, hx230_1, hx230_2⟩ := at_T44 HR0.out x14_2 p230 q230
                  have hw230_2 := hx230_2
                  have hw230_1 := hx230_1
                  have hw230_0 := hx230_0
                  obtain rfl : ad210 = ad230 := (by injection e230)
                  replace hx230_0 := (HB.out.cell (World.block_lt_of_cell? w _ hx230_0)).trans hx230_0
                  replace hx230_1 := (HB.out.cell (World.block_lt_of_cell? w _ hx230_1)).trans hx230_1
                  replace hx230_2 := (HB.out.cell (World.block_lt_of_cell? w _ hx230_2)).trans hx230_2
                  replace p230 := eq_true p230
                  replace q230 := eq_true q230
                  have p231 : 0 ≤ (a2 : Int) := of_decide_eq_true (by first | (with_reducible assumption) | assumption)
                  have q231 : a2 < (l0.length : Int) := of_decide_eq_true (by first | (with_reducible assumption) | assumption)
                  obtain ⟨ad231, e231, hx231_0, hx231_1, hx231_2⟩ := at_T44 HR0.out a2 p231 q231
                  have hw231_2 := hx231_2
                  have hw231_1 := hx231_1
                  have hw231_0 := hx231_0
                  obtain rfl : ad210 = ad231 := (by injection e231)
                  replace hx231_0 := (HB.out.cell (World.block_lt_of_cell? w _ hx231_0)).trans hx231_0
                  replace hx231_1 := (HB.out.cell (World.block_lt_of_cell? w _ hx231_1)).trans hx231_1
                  replace hx231_2 := (HB.out.cell (World.block_lt_of_cell? w _ hx231_2)).trans hx231_2
                  replace p231 := eq_true p231
                  replace q231 := eq_true q231
                  refine start_ (n := 16) (S := fun w' => w'.cell? (ad210.add ((x14_2).toNat * 3)) = some (.int .i64 ((rd_T44 l0 x14_2).f0)) ∧ w'.cell? ⟨(ad210.add ((x14_2).toNat * 3)).block, (ad210.add ((x14_2).toNat * 3)).off + 1, none⟩ = some (.int .i64 ((rd_T44 l0 x14_2).f1)) ∧ w'.cell? ⟨(ad210.add ((x14_2).toNat * 3)).block, (ad210.add ((x14_2).toNat * 3)).off + 2, none⟩ = some (.int .i64 ((rd_T44 l0 x14_2).f2)) ∧ w'.cell? (ad210.add ((a2).toNat * 3)) = some (.int .i64 ((rd_T44 l0 a2).f0)) ∧ w'.cell? ⟨(ad210.add ((a2).toNat * 3)).block, (ad210.add ((a2).toNat * 3)).off + 1, none⟩ = some (.int .i64 ((rd_T44 l0 a2).f1)) ∧ w'.cell? ⟨(ad210.add ((a2).toNat * 3)).block, (ad210.add ((a2).toNat * 3)).off + 2, none⟩ = some (.int .i64 ((rd_T44 l0 a2).f2))) (ds := []) #[n_, n_, n_, n_, n_, n_, n_, n_, n_, n_, n_, n_, n_, n_, n_, n_] (by kernel_rfl) rfl rfl ⟨((HB.out.cell (World.block_lt_of_cell? w _ hw230_0)).trans hw230_0), ((HB.out.cell (World.block_lt_of_cell? w _ hw230_1)).trans hw230_1), ((HB.out.cell (World.block_lt_of_cell? w _ hw230_2)).trans hw230_2), ((HB.out.cell (World.block_lt_of_cell? w _ hw231_0)).trans hw231_0), ((HB.out.cell (World.block_lt_of_cell? w _ hw231_1)).trans hw231_1), ((HB.out.cell (World.block_lt_of_cell? w _ hw231_2)).trans hw231_2)⟩ (fun hHeld => ?_); refine with_tabW cohousingref28_equation.tab16 cohousingref28_equation.bits16 (fun HT_ HW_ => ?_)
                  generalize w69.drew = w70 at HO_13 BK213 BK215 HB hx230_0 hx230_1 hx230_2 hx231_0 hx231_1 hx231_2 hHeld ⊢
                  refine pure_ (i := 0) (N := some 69) (v := ?_) (a' := ?_) #[y_, n_, n_, n_, n_, n_, n_, n_, n_, n_, n_, n_, n_, n_, n_, n_] rfl rfl (any_of HT_.out (by kernel_rfl)) (fun _ _ _ h => h) (Or.inl ⟨by rfl, ?_⟩) ?_ ?_
                  rotate_left
                  ·intro w'
                   go_simp
                   with_reducible rfl
                  rotate_left
                  ·simp only [Act.put, sI_, s0_, sS_, i64_w, i32_w]
                   rfl
                  refine pure_ (i := 1) (N := some 70) (v := ?_) (a' := ?_) #[y_, y_, n_, n_, n_, n_, n_, n_, n_, n_, n_, n_, n_, n_, n_, n_] rfl rfl (any_of HT_.out (by kernel_rfl)) (fun _ _ _ h => h) (Or.inl ⟨by rfl, ?_⟩) ?_ ?_
                  rotate_left
                  ·intro w'
                   go_simp
                   with_reducible rfl
                  rotate_left
                  ·simp only [Act.put, sI_, s0_, sS_, i64_w, i32_w]
                   rfl
                  refine pure_ (i := 2) (N := some 71) (v := ?_) (a' := ?_) #[y_, y_, y_, n_, n_, n_, n_, n_, n_, n_, n_, n_, n_, n_, n_, n_] rfl rfl (any_of HT_.out (by kernel_rfl)) (fun _ _ _ h => h) (Or.inl ⟨by rfl, ?_⟩) ?_ ?_
                  rotate_left
                  ·intro w'
                   go_simp
                   with_reducible rfl
                  rotate_left
                  ·simp only [Act.put, sI_, s0_, sS_, i64_w, i32_w]
                   rfl
                  refine pure_ (i := 3) (N := some 72) (v := ?_) (a' := ?_) #[y_, y_, y_, y_, n_, n_, n_, n_, n_, n_, n_, n_, n_, n_, n_, n_] rfl rfl (any_of HT_.out (by kernel_rfl)) (fun _ _ _ h => h) (Or.inl ⟨by rfl, ?_⟩) ?_ ?_
                  rotate_left
                  ·intro w'
                   go_simp
                   with_reducible rfl
                  rotate_left
                  ·simp only [Act.put, sI_, s0_, sS_, i64_w, i32_w]
                   rfl
                  refine pure_ (i := 4) (N := some 73) (v := ?_) (a' := ?_) #[y_, y_, y_, y_, y_, n_, n_, n_, n_, n_, n_, n_, n_, n_, n_, n_] rfl rfl (any_of HT_.out (by kernel_rfl)) (fun _ _ _ h => h) (Or.inl ⟨by rfl, ?_⟩) ?_ ?_
                  rotate_left
                  ·intro w'
                   go_simp
                   with_reducible rfl
                  rotate_left
                  ·simp only [Act.put, sI_, s0_, sS_, i64_w, i32_w]
                   rfl
                  refine pure_ (i := 5) (N := some 74) (v := ?_) (a' := ?_) #[y_, y_, y_, y_, y_, y_, n_, n_, n_, n_, n_, n_, n_, n_, n_, n_] rfl rfl (any_of HT_.out (by kernel_rfl)) (fun _ _ _ h => h) (Or.inl ⟨by rfl, ?_⟩) ?_ ?_
                  rotate_left
                  ·intro w'
                   go_simp
                   with_reducible rfl
                  rotate_left
                  ·simp only [Act.put, sI_, s0_, sS_, i64_w, i32_w]
                   rfl
                  refine pure_ (i := 6) (N := some 75) (v := ?_) (a' := ?_) #[y_, y_, y_, y_, y_, y_, y_, n_, n_, n_, n_, n_, n_, n_, n_, n_] rfl rfl (any_of HT_.out (by kernel_rfl)) (fun _ _ _ h => h) (Or.inl ⟨by rfl, ?_⟩) ?_ ?_
                  rotate_left
                  ·intro w'
                   go_simp
                   with_reducible rfl
                  rotate_left
                  ·simp only [Act.put, sI_, s0_, sS_, i64_w, i32_w]
                   rfl
                  refine pure_ (i := 7) (N := some 76) (v := ?_) (a' := ?_) #[y_, y_, y_, y_, y_, y_, y_, y_, n_, n_, n_, n_, n_, n_, n_, n_] rfl rfl (any_of HT_.out (by kernel_rfl)) (fun _ _ _ h => h) (Or.inl ⟨by rfl, ?_⟩) ?_ ?_
                  rotate_left
                  ·intro w'
                   go_simp
                   with_reducible rfl
                  rotate_left
                  ·simp only [Act.put, sI_, s0_, sS_, i64_w, i32_w]
                   rfl
                  refine pure_ (i := 9) (N := some 78) (v := ?_) (a' := ?_) #[y_, y_, y_, y_, y_, y_, y_, y_, n_, y_, n_, n_, n_, n_, n_, n_] rfl rfl (any_of HT_.out (by kernel_rfl)) (fun _ _ _ h => h) (Or.inl ⟨by rfl, ?_⟩) ?_ ?_
                  rotate_left
                  ·intro w'
                   go_simp
                   with_reducible rfl
                  rotate_left
                  ·simp only [Act.put, sI_, s0_, sS_, i64_w, i32_w]
                   rfl
                  refine pure_ (i := 10) (N := some 79) (v := ?_) (a' := ?_) #[y_, y_, y_, y_, y_, y_, y_, y_, n_, y_, y_, n_, n_, n_, n_, n_] rfl rfl (any_of HT_.out (by kernel_rfl)) (fun _ _ _ h => h) (Or.inl ⟨by rfl, ?_⟩) ?_ ?_
                  rotate_left
                  ·intro w'
                   go_simp
                   with_reducible rfl
                  rotate_left
                  ·simp only [Act.put, sI_, s0_, sS_, i64_w, i32_w]
                   rfl
                  refine pure_ (i := 11) (N := some 80) (v := ?_) (a' := ?_) #[y_, y_, y_, y_, y_, y_, y_, y_, n_, y_, y_, y_, n_, n_, n_, n_] rfl rfl (any_of HT_.out (by kernel_rfl)) (fun _ _ _ h => h) (Or.inl ⟨by rfl, ?_⟩) ?_ ?_
                  rotate_left
                  ·intro w'
                   go_simp
                   with_reducible rfl
                  rotate_left
                  ·simp only [Act.put, sI_, s0_, sS_, i64_w, i32_w]
                   rfl
                  refine pure_ (i := 12) (N := some 81) (v := ?_) (a' := ?_) #[y_, y_, y_, y_, y_, y_, y_, y_, n_, y_, y_, y_, y_, n_, n_, n_] rfl rfl (any_of HT_.out (by kernel_rfl)) (fun _ _ _ h => h) (Or.inl ⟨by rfl, ?_⟩) ?_ ?_
                  rotate_left
                  ·intro w'
                   go_simp
                   with_reducible rfl
                  rotate_left
                  ·simp only [Act.put, sI_, s0_, sS_, i64_w, i32_w]
                   rfl
                  refine take_ (i := 8) (N := some 77) (v := ?_) (a' := ?_) #[y_, y_, y_, y_, y_, y_, y_, y_, y_, y_, y_, y_, y_, n_, n_, n_] rfl rfl (take_ofW HT_.out HW_.out (by kernel_rfl)) (fun _ _ _ h => h) (Or.inl ⟨by rfl, ?_⟩) hHeld ?_ ?_
                  rotate_left
                  ·rintro w' ⟨s0, s1, s2, s3, s4, s5⟩
                   go_simp
                   with_reducible rfl
                  rotate_left
                  ·simp only [Act.put, sI_, s0_, sS_, i64_w, i32_w]
                   rfl
                  refine take_ (i := 13) (N := some 82) (v := ?_) (a' := ?_) #[y_, y_, y_, y_, y_, y_, y_, y_, y_, y_, y_, y_, y_, y_, n_, n_] rfl rfl (take_ofW HT_.out HW_.out (by kernel_rfl)) (fun _ _ _ h => h) (Or.inl ⟨by rfl, ?_⟩) hHeld ?_ ?_
                  rotate_left
                  ·rintro w' ⟨s0, s1, s2, s3, s4, s5⟩
                   go_simp
                   with_reducible rfl
                  rotate_left
                  ·simp only [Act.put, sI_, s0_, sS_, i64_w, i32_w]
                   rfl
                  refine pure_ (i := 14) (N := some 83) (v := ?_) (a' := ?_) #[y_, y_, y_, y_, y_, y_, y_, y_, y_, y_, y_, y_, y_, y_, y_, n_] rfl rfl (any_of HT_.out (by kernel_rfl)) (fun _ _ _ h => h) (Or.inl ⟨by rfl, ?_⟩) ?_ ?_
                  rotate_left
                  ·intro w'
                   go_simp
                   with_reducible rfl
                  rotate_left
                  ·simp only [Act.put, sI_, s0_, sS_, i64_w, i32_w]
                   rfl
                  refine pure_ (i := 15) (N := some 84) (v := ?_) (a' := ?_) #[y_, y_, y_, y_, y_, y_, y_, y_, y_, y_, y_, y_, y_, y_, y_, y_] rfl rfl (any_of HT_.out (by kernel_rfl)) (fun _ _ _ h => h) (Or.inl ⟨by rfl, ?_⟩) ?_ ?_
                  rotate_left
                  ·intro w'
                   go_simp
                   with_reducible rfl
                  rotate_left
                  ·simp only [Act.put, sI_, s0_, sS_, i64_w, i32_w]
                   rfl
                  refine done_ (done_of HT_.out (by kernel_rfl)) ?_
                  try go_wp2
                  have n0_ := Aside0.mk (Kd.R_drew HO_13.out)
                  have n1_ := Aside0.mk (blk_drew BK213.out)
                  have n2_ := Aside0.mk (blk_drew BK215.out)
                  have n3_ := Aside0.mk (below_drew1 HB.out)
                  clear HO_13
                  clear BK213
                  clear BK215
                  clear HB
                  have HO_13 := n0_
                  have BK213 := n1_
                  have BK215 := n2_
                  have HB := n3_
                  clear n0_ n1_ n2_ n3_
                  have p232 : 0 ≤ (a2 : Int) := of_decide_eq_true (by first | (with_reducible assumption) | assumption)
                  have q232 : a2 < (l0.length : Int) := of_decide_eq_true (by first | (with_reducible assumption) | assumption)
                  obtain ⟨ad232, e232, hx232_0, hx232_1, hx232_2⟩ := at_T44 HR0.out a2 p232 q232
                  have hw232_2 := hx232_2
                  have hw232_1 := hx232_1
                  have hw232_0 := hx232_0
                  obtain rfl : ad210 = ad232 := (by injection e232)
                  replace hx232_0 := (HB.out.cell (World.block_lt_of_cell? w _ hx232_0)).trans hx232_0
                  replace hx232_1 := (HB.out.cell (World.block_lt_of_cell? w _ hx232_1)).trans hx232_1
                  replace hx232_2 := (HB.out.cell (World.block_lt_of_cell? w _ hx232_2)).trans hx232_2
                  replace p232 := eq_true p232
                  replace q232 := eq_true q232
                  refine start_ (n := 23) (S := fun w' => w'.cell? ⟨gb215, 0, none⟩ = some (.int .i64 ((rd_T39 l1 x14_2).f0)) ∧ w'.cell? ⟨gb215, 1, none⟩ = some (.int .i64 ((rd_T39 l1 x14_2).f1)) ∧ w'.cell? ⟨gb213, 0, none⟩ = some (.int .i64 t211) ∧ w'.cell? ⟨gb213, 1, none⟩ = some (.int .i64 t212) ∧ w'.cell? (ad210.add ((a2).toNat * 3)) = some (.int .i64 ((rd_T44 l0 a2).f0)) ∧ w'.cell? ⟨(ad210.add ((a2).toNat * 3)).block, (ad210.add ((a2).toNat * 3)).off + 1, none⟩ = some (.int .i64 ((rd_T44 l0 a2).f1)) ∧ w'.cell? ⟨(ad210.add ((a2).toNat * 3)).block, (ad210.add ((a2).toNat * 3)).off + 2, none⟩ = some (.int .i64 ((rd_T44 l0 a2).f2))) (ds := [22]) #[n_, n_, n_, n_, n_, n_, n_, n_, n_, n_, n_, n_, n_, n_, n_, n_, n_, n_, n_, n_, n_, n_, n_] (by kernel_rfl) rfl rfl ⟨(blk_cell BK215.out 0).trans rfl, (blk_cell BK215.out 1).trans rfl, (blk_cell BK213.out 0).trans rfl, (blk_cell BK213.out 1).trans rfl, ((HB.out.cell (World.block_lt_of_cell? w _ hw232_0)).trans hw232_0), ((HB.out.cell (World.block_lt_of_cell? w _ hw232_1)).trans hw232_1), ((HB.out.cell (World.block_lt_of_cell? w _ hw232_2)).trans hw232_2)⟩ (fun hHeld => ?_); refine with_tabW cohousingref28_equation.tab17 cohousingref28_equation.bits17 (fun HT_ HW_ => ?_)
                  generalize w70.drew = w71 at HO_13 BK213 BK215 HB hx232_0 hx232_1 hx232_2 hHeld ⊢
                  refine pure_ (i := 1) (N := some 86) (v := ?_) (a' := ?_) #[n_, y_, n_, n_, n_, n_, n_, n_, n_, n_, n_, n_, n_, n_, n_, n_, n_, n_, n_, n_, n_, n_, n_] rfl rfl (any_of HT_.out (by kernel_rfl)) (fun _ _ _ h => h) (Or.inl ⟨by rfl, ?_⟩) ?_ ?_
                  rotate_left
                  ·intro w'
                   go_simp
                   with_reducible rfl
                  rotate_left
                  ·simp only [Act.put, sI_, s0_, sS_, i64_w, i32_w]
                   rfl
                  refine pure_ (i := 3) (N := some 88) (v := ?_) (a' := ?_) #[n_, y_, n_, y_, n_, n_, n_, n_, n_, n_, n_, n_, n_, n_, n_, n_, n_, n_, n_, n_, n_, n_, n_] rfl rfl (any_of HT_.out (by kernel_rfl)) (fun _ _ _ h => h) (Or.inl ⟨by rfl, ?_⟩) ?_ ?_
                  rotate_left
                  ·intro w'
                   go_simp
                   with_reducible rfl
                  rotate_left
                  ·simp only [Act.put, sI_, s0_, sS_, i64_w, i32_w]
                   rfl
                  refine pure_ (i := 4) (N := some 89) (v := ?_) (a' := ?_) #[n_, y_, n_, y_, y_, n_, n_, n_, n_, n_, n_, n_, n_, n_, n_, n_, n_, n_, n_, n_, n_, n_, n_] rfl rfl (any_of HT_.out (by kernel_rfl)) (fun _ _ _ h => h) (Or.inl ⟨by rfl, ?_⟩) ?_ ?_
                  rotate_left
                  ·intro w'
                   go_simp
                   with_reducible rfl
                  rotate_left
                  ·simp only [Act.put, sI_, s0_, sS_, i64_w, i32_w]
                   rfl
                  refine pure_ (i := 5) (N := some 90) (v := ?_) (a' := ?_) #[n_, y_, n_, y_, y_, y_, n_, n_, n_, n_, n_, n_, n_, n_, n_, n_, n_, n_, n_, n_, n_, n_, n_] rfl rfl (any_of HT_.out (by kernel_rfl)) (fun _ _ _ h => h) (Or.inl ⟨by rfl, ?_⟩) ?_ ?_
                  rotate_left
                  ·intro w'
                   go_simp
                   with_reducible rfl
                  rotate_left
                  ·simp only [Act.put, sI_, s0_, sS_, i64_w, i32_w]
                   rfl
                  refine pure_ (i := 6) (N := some 91) (v := ?_) (a' := ?_) #[n_, y_, n_, y_, y_, y_, y_, n_, n_, n_, n_, n_, n_, n_, n_, n_, n_, n_, n_, n_, n_, n_, n_] rfl rfl (any_of HT_.out (by kernel_rfl)) (fun _ _ _ h => h) (Or.inl ⟨by rfl, ?_⟩) ?_ ?_
                  rotate_left
                  ·intro w'
                   go_simp
                   with_reducible rfl
                  rotate_left
                  ·simp only [Act.put, sI_, s0_, sS_, i64_w, i32_w]
                   rfl
                  refine pure_ (i := 9) (N := some 94) (v := ?_) (a' := ?_) #[n_, y_, n_, y_, y_, y_, y_, n_, n_, y_, n_, n_, n_, n_, n_, n_, n_, n_, n_, n_, n_, n_, n_] rfl rfl (any_of HT_.out (by kernel_rfl)) (fun _ _ _ h => h) (Or.inl ⟨by rfl, ?_⟩) ?_ ?_
                  rotate_left
                  ·intro w'
                   go_simp
                   with_reducible rfl
                  rotate_left
                  ·simp only [Act.put, sI_, s0_, sS_, i64_w, i32_w]
                   rfl
                  refine pure_ (i := 10) (N := some 95) (v := ?_) (a' := ?_) #[n_, y_, n_, y_, y_, y_, y_, n_, n_, y_, y_, n_, n_, n_, n_, n_, n_, n_, n_, n_, n_, n_, n_] rfl rfl (any_of HT_.out (by kernel_rfl)) (fun _ _ _ h => h) (Or.inl ⟨by rfl, ?_⟩) ?_ ?_
                  rotate_left
                  ·intro w'
                   go_simp
                   with_reducible rfl
                  rotate_left
                  ·simp only [Act.put, sI_, s0_, sS_, i64_w, i32_w]
                   rfl
                  refine pure_ (i := 14) (N := some 99) (v := ?_) (a' := ?_) #[n_, y_, n_, y_, y_, y_, y_, n_, n_, y_, y_, n_, n_, n_, y_, n_, n_, n_, n_, n_, n_, n_, n_] rfl rfl (any_of HT_.out (by kernel_rfl)) (fun _ _ _ h => h) (Or.inl ⟨by rfl, ?_⟩) ?_ ?_
                  rotate_left
                  ·intro w'
                   go_simp
                   with_reducible rfl
                  rotate_left
                  ·simp only [Act.put, sI_, s0_, sS_, i64_w, i32_w]
                   rfl
                  refine pure_ (i := 16) (N := some 101) (v := ?_) (a' := ?_) #[n_, y_, n_, y_, y_, y_, y_, n_, n_, y_, y_, n_, n_, n_, y_, n_, y_, n_, n_, n_, n_, n_, n_] rfl rfl (any_of HT_.out (by kernel_rfl)) (fun _ _ _ h => h) (Or.inl ⟨by rfl, ?_⟩) ?_ ?_
                  rotate_left
                  ·intro w'
                   go_simp
                   with_reducible rfl
                  rotate_left
                  ·simp only [Act.put, sI_, s0_, sS_, i64_w, i32_w]
                   rfl
                  refine pure_ (i := 17) (N := some 102) (v := ?_) (a' := ?_) #[n_, y_, n_, y_, y_, y_, y_, n_, n_, y_, y_, n_, n_, n_, y_, n_, y_, y_, n_, n_, n_, n_, n_] rfl rfl (any_of HT_.out (by kernel_rfl)) (fun _ _ _ h => h) (Or.inl ⟨by rfl, ?_⟩) ?_ ?_
                  rotate_left
                  ·intro w'
                   go_simp
                   with_reducible rfl
                  rotate_left
                  ·simp only [Act.put, sI_, s0_, sS_, i64_w, i32_w]
                   rfl
                  refine take_ (i := 0) (N := some 85) (v := ?_) (a' := ?_) #[y_, y_, n_, y_, y_, y_, y_, n_, n_, y_, y_, n_, n_, n_, y_, n_, y_, y_, n_, n_, n_, n_, n_] rfl rfl (take_ofW HT_.out HW_.out (by kernel_rfl)) (fun _ _ _ h => h) (Or.inl ⟨by rfl, ?_⟩) hHeld ?_ ?_
                  rotate_left
                  ·rintro w' ⟨s0, s1, s2, s3, s4, s5, s6⟩
                   go_simp
                   with_reducible rfl
                  rotate_left
                  ·simp only [Act.put, sI_, s0_, sS_, i64_w, i32_w]
                   rfl
                  refine take_ (i := 2) (N := some 87) (v := ?_) (a' := ?_) #[y_, y_, y_, y_, y_, y_, y_, n_, n_, y_, y_, n_, n_, n_, y_, n_, y_, y_, n_, n_, n_, n_, n_] rfl rfl (take_ofW HT_.out HW_.out (by kernel_rfl)) (fun _ _ _ h => h) (Or.inl ⟨by rfl, ?_⟩) hHeld ?_ ?_
                  rotate_left
                  ·rintro w' ⟨s0, s1, s2, s3, s4, s5, s6⟩
                   go_simp
                   with_reducible rfl
                  rotate_left
                  ·simp only [Act.put, sI_, s0_, sS_, i64_w, i32_w]
                   rfl
                  refine take_ (i := 7) (N := some 92) (v := ?_) (a' := ?_) #[y_, y_, y_, y_, y_, y_, y_, y_, n_, y_, y_, n_, n_, n_, y_, n_, y_, y_, n_, n_, n_, n_, n_] rfl rfl (take_ofW HT_.out HW_.out (by kernel_rfl)) (fun _ _ _ h => h) (Or.inl ⟨by rfl, ?_⟩) hHeld ?_ ?_
                  rotate_left
                  ·rintro w' ⟨s0, s1, s2, s3, s4, s5, s6⟩
                   go_simp
                   with_reducible rfl
                  rotate_left
                  ·simp only [Act.put, sI_, s0_, sS_, i64_w, i32_w]
                   rfl
                  refine pure_ (i := 8) (N := some 93) (v := ?_) (a' := ?_) #[y_, y_, y_, y_, y_, y_, y_, y_, y_, y_, y_, n_, n_, n_, y_, n_, y_, y_, n_, n_, n_, n_, n_] rfl rfl (any_of HT_.out (by kernel_rfl)) (fun _ _ _ h => h) (Or.inl ⟨by rfl, ?_⟩) ?_ ?_
                  rotate_left
                  ·intro w'
                   go_simp
                   with_reducible rfl
                  rotate_left
                  ·simp only [Act.put, sI_, s0_, sS_, i64_w, i32_w]
                   rfl
                  refine take_ (i := 11) (N := some 96) (v := ?_) (a' := ?_) #[y_, y_, y_, y_, y_, y_, y_, y_, y_, y_, y_, y_, n_, n_, y_, n_, y_, y_, n_, n_, n_, n_, n_] rfl rfl (take_ofW HT_.out HW_.out (by kernel_rfl)) (fun _ _ _ h => h) (Or.inl ⟨by rfl, ?_⟩) hHeld ?_ ?_
                  rotate_left
                  ·rintro w' ⟨s0, s1, s2, s3, s4, s5, s6⟩
                   go_simp
                   with_reducible rfl
                  rotate_left
                  ·simp only [Act.put, sI_, s0_, sS_, i64_w, i32_w]
                   rfl
                  refine pure_ (i := 12) (N := some 97) (v := ?_) (a' := ?_) #[y_, y_, y_, y_, y_, y_, y_, y_, y_, y_, y_, y_, y_, n_, y_, n_, y_, y_, n_, n_, n_, n_, n_] rfl rfl (any_of HT_.out (by kernel_rfl)) (fun _ _ _ h => h) (Or.inl ⟨by rfl, ?_⟩) ?_ ?_
                  rotate_left
                  ·intro w'
                   go_simp
                   with_reducible rfl
                  rotate_left
                  ·simp only [Act.put, sI_, s0_, sS_, i64_w, i32_w]
                   rfl
                  refine pure_ (i := 13) (N := some 98) (v := ?_) (a' := ?_) #[y_, y_, y_, y_, y_, y_, y_, y_, y_, y_, y_, y_, y_, y_, y_, n_, y_, y_, n_, n_, n_, n_, n_] rfl rfl (any_of HT_.out (by kernel_rfl)) (fun _ _ _ h => h) (Or.inl ⟨by rfl, ?_⟩) ?_ ?_
                  rotate_left
                  ·intro w'
                   go_simp
                   with_reducible rfl
                  rotate_left
                  ·simp only [Act.put, sI_, s0_, sS_, i64_w, i32_w]
                   rfl
                  refine take_ (i := 15) (N := some 100) (v := ?_) (a' := ?_) #[y_, y_, y_, y_, y_, y_, y_, y_, y_, y_, y_, y_, y_, y_, y_, y_, y_, y_, n_, n_, n_, n_, n_] rfl rfl (take_ofW HT_.out HW_.out (by kernel_rfl)) (fun _ _ _ h => h) (Or.inl ⟨by rfl, ?_⟩) hHeld ?_ ?_
                  rotate_left
                  ·rintro w' ⟨s0, s1, s2, s3, s4, s5, s6⟩
                   go_simp
                   with_reducible rfl
                  rotate_left
                  ·simp only [Act.put, sI_, s0_, sS_, i64_w, i32_w]
                   rfl
                  refine take_ (i := 18) (N := some 103) (v := ?_) (a' := ?_) #[y_, y_, y_, y_, y_, y_, y_, y_, y_, y_, y_, y_, y_, y_, y_, y_, y_, y_, y_, n_, n_, n_, n_] rfl rfl (take_ofW HT_.out HW_.out (by kernel_rfl)) (fun _ _ _ h => h) (Or.inl ⟨by rfl, ?_⟩) hHeld ?_ ?_
                  rotate_left
                  ·rintro w' ⟨s0, s1, s2, s3, s4, s5, s6⟩
                   go_simp
                   with_reducible rfl
                  rotate_left
                  ·simp only [Act.put, sI_, s0_, sS_, i64_w, i32_w]
                   rfl
                  refine pure_ (i := 19) (N := some 104) (v := ?_) (a' := ?_) #[y_, y_, y_, y_, y_, y_, y_, y_, y_, y_, y_, y_, y_, y_, y_, y_, y_, y_, y_, y_, n_, n_, n_] rfl rfl (any_of HT_.out (by kernel_rfl)) (fun _ _ _ h => h) (Or.inl ⟨by rfl, ?_⟩) ?_ ?_
                  rotate_left
                  ·intro w'
                   go_simp
                   with_reducible rfl
                  rotate_left
                  ·simp only [Act.put, sI_, s0_, sS_, i64_w, i32_w]
                   rfl
                  refine pure_ (i := 20) (N := some 105) (v := ?_) (a' := ?_) #[y_, y_, y_, y_, y_, y_, y_, y_, y_, y_, y_, y_, y_, y_, y_, y_, y_, y_, y_, y_, y_, n_, n_] rfl rfl (any_of HT_.out (by kernel_rfl)) (fun _ _ _ h => h) (Or.inl ⟨by rfl, ?_⟩) ?_ ?_
                  rotate_left
                  ·intro w'
                   go_simp
                   with_reducible rfl
                  rotate_left
                  ·simp only [Act.put, sI_, s0_, sS_, i64_w, i32_w]
                   rfl
                  refine one_ (i := 21) (N := some 106) #[y_, y_, y_, y_, y_, y_, y_, y_, y_, y_, y_, y_, y_, y_, y_, y_, y_, y_, y_, y_, y_, y_, n_] rfl rfl (one_of HT_.out (by kernel_rfl)) (by decide) (fun K hK => ?_)
                  refine goes_ Try.func54 (by kernel_rfl) rfl #[.agg #[.int .i64 ((rd_T39 l1 x14_2).f0), .int .i64 ((rd_T39 l1 x14_2).f1)], .int .i64 (wrap64 ((wrap64 (t211 - ((rd_T44 l0 a2).f2))) - (wrap64 (x10_1 - ((rd_T39 l1 x14_2).f1))))), .int .i64 (wrap64 (t212 - (wrap64 (x9_1 - ((rd_T39 l1 x14_2).f0)))))] (by rfl) rfl rfl (by (try simp only [List.map_toArray, List.map_cons, List.map_nil]); first | done | rfl | (simp only [List.length_drop, List.length_take]; rfl)) ?_
                  with_reducible refine (cohousingref28_narrow.calls ((rd_T39 l1 x14_2).f0) ((rd_T39 l1 x14_2).f1) (wrap64 ((wrap64 (t211 - ((rd_T44 l0 a2).f2))) - (wrap64 (x10_1 - ((rd_T39 l1 x14_2).f1))))) (wrap64 (t212 - (wrap64 (x9_1 - ((rd_T39 l1 x14_2).f0))))) t233 t234 _ A64.out).mono ?_
                  rintro e w72 ⟨rfl, hb⟩
                  refine ⟨_, rfl, ?_⟩
                  have n0_ := Aside0.mk (Kd.R_below (by (with_reducible repeat (first | apply Kd.R_alloc | apply Kd.R_drewN | apply Kd.R_drew)); exact HO_13.out) hb)
                  have n1_ := Aside0.mk (blk_below (g := gb213) (o := .cells #[.int .i64 t211, .int .i64 t212] 39 (0, 0)) (by (with_reducible repeat (first | refine blk_drewN ?_ _ | refine blk_drew ?_ | refine blk_alloc ?_ _)); exact BK213.out) hb)
                  have n2_ := Aside0.mk (blk_below (g := gb215) (o := .cells #[.int .i64 ((rd_T39 l1 x14_2).f0), .int .i64 ((rd_T39 l1 x14_2).f1)] 39 (0, 0)) (by (with_reducible repeat (first | refine blk_drewN ?_ _ | refine blk_drew ?_ | refine blk_alloc ?_ _)); exact BK215.out) hb)
                  have n3_ := Aside0.mk (below_step (by repeat (first | (with_reducible first | exact HB.out | apply below_alloc | apply pw_below_drewN | apply below_drew1 | refine below_set ?_ GE213.out | refine below_set ?_ GE215.out) | exact HB.out)) hb)
                  clear HO_13
                  clear BK213
                  clear BK215
                  clear HB
                  have HO_13 := n0_
                  have BK213 := n1_
                  have BK215 := n2_
                  have HB := n3_
                  clear n0_ n1_ n2_ n3_
                  (try clear hb)
                  (try clear hb2)
                  (try clear hk)
                  (try clear hi)
                  refine hK.out _ _ ⟨(blk_cell BK215.out 0).trans rfl, (blk_cell BK215.out 1).trans rfl, (blk_cell BK213.out 0).trans rfl, (blk_cell BK213.out 1).trans rfl, ((HB.out.cell (World.block_lt_of_cell? w _ hw232_0)).trans hw232_0), ((HB.out.cell (World.block_lt_of_cell? w _ hw232_1)).trans hw232_1), ((HB.out.cell (World.block_lt_of_cell? w _ hw232_2)).trans hw232_2)⟩ (fun hHeld => ?_)
                  clear hK K
                  refine norm_ (a' := ?_) ?_ ?_
                  rotate_left
                  ·show Act.put _ (some 106) _ = _
                   simp only [Act.put, sI_, s0_, sS_, i64_w, i32_w]
                   rfl
                  refine last_ (i := 22) (N := none) #[y_, y_, y_, y_, y_, y_, y_, y_, y_, y_, y_, y_, y_, y_, y_, y_, y_, y_, y_, y_, y_, y_, y_] rfl rfl (one_of HT_.out (by kernel_rfl)) (by decide) (fun K hK => ?_)
                  have hs73 : w72.cell? ⟨gb215, 0, none⟩ = some (.int .i64 ((rd_T39 l1 x14_2).f0)) := (blk_cell BK215.out 0).trans rfl
                  have hfs73 := blk_frozen BK215.out 0
                  have hns73_0 := NB213_215.out
                  have hms73_0 := NB215_213.out
                  have hs74 : w72.cell? ⟨gb215, 1, none⟩ = some (.int .i64 ((rd_T39 l1 x14_2).f1)) := (blk_cell BK215.out 1).trans rfl
                  have hfs74 := blk_frozen BK215.out 1
                  have hns74_0 := NB213_215.out
                  have hms74_0 := NB215_213.out
                  refine skip_ (w1 := ?_) (by rfl) rfl ?_ ?_
                  rotate_left
                  ·go_simp
                   rfl
                  refine hK.out _ _ ?_
                  clear hK K
                  refine done_ (done_of HT_.out (by kernel_rfl)) ?_
                  have hcz75_0 : w72.cell? ⟨gb215, 0, none⟩ = some (.int .i64 ((rd_T39 l1 x14_2).f0)) := (blk_cell BK215.out 0).trans rfl
                  have hcz75_1 : w72.cell? ⟨gb215, 1, none⟩ = some (.int .i64 ((rd_T39 l1 x14_2).f1)) := (blk_cell BK215.out 1).trans rfl
                  have hfz75_0 := blk_frozen BK215.out 0
                  have hfz75_1 := blk_frozen BK215.out 1
                  try go_wp2_with (first | ((with_reducible refine gate_builtin (b := .append) (xs := #[.tmp 107, .tmp 109]) rfl ?_); at_builtin; refine Kd.R_append k39 (w0 := w) w.heap.size rfl (.tmp 107) (.tmp 109) 23 39 (.agg #[(.int .i64 0), (.int .i64 0)]) 16 rfl Try.underlying23 info39 rfl (by decide) (by omega) u13 x13_2 (⟨t233, t234⟩ : S39) [.int .i64 t233, .int .i64 t234] (fun k_ => k_ ≠ gb213 ∧ k_ ≠ gb215) (fun _ => False) rfl (by first | (go_simp; done) | (go_simp; rfl)) ?aP (fun _ hk => hk.elim) ?aF ?aO ?aB ?aS ?aL ?_; (case aP => exact k39_mkM _ _ _ (⟨t233, t234⟩ : S39)); (case aB => exact (by repeat (first | (with_reducible first | exact HB.out | apply below_alloc | apply pw_below_drewN | apply below_drew1 | refine below_set ?_ GE213.out | refine below_set ?_ GE215.out) | exact HB.out))); (case aF => exact (fun k_ hk => ⟨Kd.freshB (g := gb213) (o := .cells #[.int .i64 t211, .int .i64 t212] 39 (0, 0)) (by (with_reducible repeat (first | refine blk_drewN ?_ _ | refine blk_drew ?_ | refine blk_alloc ?_ _)); refine blk_far ?_ NB213_215.out _; (with_reducible repeat (first | refine blk_drewN ?_ _ | refine blk_drew ?_ | refine blk_alloc ?_ _)); refine blk_far ?_ NB213_215.out _; (with_reducible repeat (first | refine blk_drewN ?_ _ | refine blk_drew ?_ | refine blk_alloc ?_ _)); exact BK213.out) k_ hk, Kd.freshB (g := gb215) (o := .cells #[.int .i64 t233, .int .i64 t234] 39 (0, 0)) (by (with_reducible repeat (first | refine blk_drewN ?_ _ | refine blk_drew ?_ | refine blk_alloc ?_ _)); refine blk_put (cs := #[.int .i64 t233, .int .i64 ((rd_T39 l1 x14_2).f1)]) ?_ 1 _ rfl; (with_reducible repeat (first | refine blk_drewN ?_ _ | refine blk_drew ?_ | refine blk_alloc ?_ _)); refine blk_put (cs := #[.int .i64 ((rd_T39 l1 x14_2).f0), .int .i64 ((rd_T39 l1 x14_2).f1)]) ?_ 0 _ rfl; (with_reducible repeat (first | refine blk_drewN ?_ _ | refine blk_drew ?_ | refine blk_alloc ?_ _)); exact BK215.out) k_ hk⟩)); (case aO => exact (by (with_reducible repeat (first | apply Kd.R_alloc | apply Kd.R_drewN | apply Kd.R_drew)); exact Kd.R_mono (Kd.R_far (p := ⟨gb215, 1, none⟩) (Kd.R_far (p := ⟨gb215, 0, none⟩) (Kd.R_mono HO_13.out (fun k_ hk => (⟨hk, hk.2⟩ : _ ∧ k_ ≠ gb215))) (fun _ hk => hk.2) (.int .i64 t233)) (fun _ hk => hk.2) (.int .i64 t234)) (fun _ hk => ⟨hk.1.1, hk.1.2⟩))); (case aS => exact (below_size (by repeat (first | (with_reducible first | exact HB.out | apply below_alloc | apply pw_below_drewN | apply below_drew1 | refine below_set ?_ GE213.out | refine below_set ?_ GE215.out) | exact HB.out)))); (case aL => have := LMc65.out; omega); intro v236 w76 ho hb hg hat; rw [← Ny235.out] at ho; have n0_ := Aside0.mk (blk_grown (g := gb213) (o := .cells #[.int .i64 t211, .int .i64 t212] 39 (0, 0)) (by (with_reducible repeat (first | refine blk_drewN ?_ _ | refine blk_drew ?_ | refine blk_alloc ?_ _)); refine blk_far ?_ NB213_215.out _; (with_reducible repeat (first | refine blk_drewN ?_ _ | refine blk_drew ?_ | refine blk_alloc ?_ _)); refine blk_far ?_ NB213_215.out _; (with_reducible repeat (first | refine blk_drewN ?_ _ | refine blk_drew ?_ | refine blk_alloc ?_ _)); exact BK213.out) hg (Kd.R_away HO_13.out (fun _ hk => hk.1))); have n1_ := Aside0.mk (blk_grown (g := gb215) (o := .cells #[.int .i64 t233, .int .i64 t234] 39 (0, 0)) (by (with_reducible repeat (first | refine blk_drewN ?_ _ | refine blk_drew ?_ | refine blk_alloc ?_ _)); refine blk_put (cs := #[.int .i64 t233, .int .i64 ((rd_T39 l1 x14_2).f1)]) ?_ 1 _ rfl; (with_reducible repeat (first | refine blk_drewN ?_ _ | refine blk_drew ?_ | refine blk_alloc ?_ _)); refine blk_put (cs := #[.int .i64 ((rd_T39 l1 x14_2).f0), .int .i64 ((rd_T39 l1 x14_2).f1)]) ?_ 0 _ rfl; (with_reducible repeat (first | refine blk_drewN ?_ _ | refine blk_drew ?_ | refine blk_alloc ?_ _)); exact BK215.out) hg (Kd.R_away HO_13.out (fun _ hk => hk.2))); have n2_ := Aside0.mk (hb); have n3_ := Aside0.mk (ho); clear BK213; clear BK215; clear HB; clear HO_13; have BK213 := n0_; have BK215 := n1_; have HB := n2_; have HO237 := n3_; clear n0_ n1_ n2_ n3_; clear ho hb hg hat))
                  go_roundg k2
                  case measure => have := HK1.out; have := HK2.out; omega
                  case rel => exact ⟨(y235), (wrap64 (x14_2 + 1)), (by first | rfl | (simp; done) | (simp [*]; done)), H', ⟨by have := HK1.out; have := HK2.out; omega⟩, ⟨by (with_reducible repeat (first | apply Kd.R_alloc | apply Kd.R_drewN | apply Kd.R_drew)); exact Kd.R_mono HO237.out (fun _ hk => hk.1)⟩, ⟨by (with_reducible repeat (first | refine blk_drewN ?_ _ | refine blk_drew ?_ | refine blk_alloc ?_ _)); exact BK213.out⟩, ⟨by repeat (first | (with_reducible first | exact HB.out | apply below_alloc | apply pw_below_drewN | apply below_drew1 | refine below_set ?_ GE213.out | refine below_set ?_ GE215.out) | exact HB.out)⟩⟩
                 ·rw [if_neg c65] at H
                  exact absurd H (by simp)
                ·rw [if_neg c63] at H
                 have c63b0 : (((rd_T44 l0 x14_2).f1) == ((rd_T44 l0 a2).f0)) = false := beq_eq_false_iff_ne.mpr c63
                 have c63b1 : (((rd_T44 l0 x14_2).f1) != ((rd_T44 l0 a2).f0)) = true := bne_iff_ne.mpr c63
                 by_cases c77 : x13_2.length < 8796093022208
                 ·rw [if_pos c77] at H
                  have LMc77 := Aside0.mk c77
                  clear c77
                  obtain ⟨y238, hy238⟩ : ∃ y_ : List (S39), y_ = (x13_2 ++ [(⟨(rd_T39 l1 x14_2).f0, (rd_T39 l1 x14_2).f1⟩ : S39)]) := ⟨_, rfl⟩
                  replace H : (cohousingref28_equation.l1 k2 l0 l1 a2 x9_1 x10_1 y238 (wrap64 (x14_2 + 1)) t211 t212) = some r := by first | (rw [hy238]; with_reducible exact H) | (have H2_ := (Option.bind_some _ _).symm.trans H; rw [hy238]; with_reducible exact H2_) | (have H2_ := (Option.bind_some _ _).symm.trans H; with_reducible exact H2_) | with_reducible exact H | (rw [hy238]; exact H) | exact H
                  have Ny238 := Aside0.mk hy238
                  clear hy238
                  have H' := Aside0.mk H
                  clear H
                  have p214 : 0 ≤ (x14_2 : Int) := of_decide_eq_true (by first | (with_reducible assumption) | assumption)
                  have q214 : x14_2 < (l1.length : Int) := of_decide_eq_true (by first | (with_reducible assumption) | assumption)
                  obtain ⟨ad214, e214, hx214_0, hx214_1⟩ := at_T39 HR1.out x14_2 p214 q214
                  obtain rfl : ad209 = ad214 := (by injection e214)
                  replace hx214_0 := (HB.out.cell (World.block_lt_of_cell? w _ hx214_0)).trans hx214_0
                  replace hx214_1 := (HB.out.cell (World.block_lt_of_cell? w _ hx214_1)).trans hx214_1
                  replace p214 := eq_true p214
                  replace q214 := eq_true q214
                  try go_wp2_with (first | ((with_reducible refine gate_dst (N := 15) rfl ?_); refine box_event ?hg (N := 15) ?hd (cs := #[.int .i64 0, .int .i64 0]) (t := 39) ?hr ?_; (case hd => rfl); (case hg => rfl); (case hr => first | (go_simp; done) | (go_simp; rfl)); intro gb215 hg w78 hbox hb; have n0_ := Aside0.mk (Kd.R_below (Kd.R_elderB (by (with_reducible repeat (first | apply Kd.R_alloc | apply Kd.R_drewN | apply Kd.R_drew)); exact HO_13.out) gb215 (Nat.le_of_eq hg.symm)) hb); have n1_ := Aside0.mk (blk_below (g := gb213) (o := .cells #[.int .i64 t211, .int .i64 t212] 39 (0, 0)) (by (with_reducible repeat (first | refine blk_drewN ?_ _ | refine blk_drew ?_ | refine blk_alloc ?_ _)); exact BK213.out) hb); have n2_ := Aside0.mk (below_step (by repeat (first | (with_reducible first | exact HB.out | apply below_alloc | apply pw_below_drewN | apply below_drew1 | refine below_set ?_ GE213.out) | exact HB.out)) hb); have n3_ := Aside0.mk (hbox); have n4_ := Aside0.mk ((by rw [hg]; exact (below_size (by repeat (first | (with_reducible first | exact HB.out | apply below_alloc | apply pw_below_drewN | apply below_drew1 | refine below_set ?_ GE213.out) | exact HB.out))) : w.heap.size ≤ gb215)); have n5_ := Aside0.mk ((by rw [hg]; exact (below_size (by repeat (first | (with_reducible first | exact HB.out | apply below_alloc | apply pw_below_drewN | apply below_drew1 | refine below_set ?_ GE213.out) | exact HB.out))) : w.heap.size ≤ gb215)); have n6_ := Aside0.mk ((by rw [hg]; exact Nat.ne_of_lt (blk_lt (g := gb213) (o := .cells #[.int .i64 t211, .int .i64 t212] 39 (0, 0)) (by (with_reducible repeat (first | refine blk_drewN ?_ _ | refine blk_drew ?_ | refine blk_alloc ?_ _)); exact BK213.out)) : gb213 ≠ gb215)); have n7_ := Aside0.mk ((by rw [hg]; exact Nat.ne_of_gt (blk_lt (g := gb213) (o := .cells #[.int .i64 t211, .int .i64 t212] 39 (0, 0)) (by (with_reducible repeat (first | refine blk_drewN ?_ _ | refine blk_drew ?_ | refine blk_alloc ?_ _)); exact BK213.out)) : gb215 ≠ gb213)); clear HO_13; clear BK213; clear HB; have HO_13 := n0_; have BK213 := n1_; have HB := n2_; have BK215 := n3_; have GW215 := n4_; have GE215 := n5_; have NB213_215 := n6_; have NB215_213 := n7_; clear n0_ n1_ n2_ n3_ n4_ n5_ n6_ n7_; clear hb hbox hg; have hnb79 := NB215_213.out; have hnc79 := NB213_215.out; have hcz80_0 : w78.cell? ⟨gb215, 0, none⟩ = some (.int .i64 0) := (blk_cell BK215.out 0).trans rfl; have hcz80_1 : w78.cell? ⟨gb215, 1, none⟩ = some (.int .i64 0) := (blk_cell BK215.out 1).trans rfl; have hfz80_0 := blk_frozen BK215.out 0; have hfz80_1 := blk_frozen BK215.out 1))
                  have n0_ : Aside0 (Kd.R k39 39 ((w78.setCell ⟨gb215, 0, none⟩ (.int .i64 ((rd_T39 l1 x14_2).f0))).setCell ⟨gb215, 1, none⟩ (.int .i64 ((rd_T39 l1 x14_2).f1))) w.heap.size (fun k_ => k_ ≠ gb213 ∧ k_ ≠ gb215) u13 x13_2) := ⟨by (with_reducible repeat (first | apply Kd.R_alloc | apply Kd.R_drewN | apply Kd.R_drew)); exact Kd.R_mono (Kd.R_far (p := ⟨gb215, 1, none⟩) (Kd.R_far (p := ⟨gb215, 0, none⟩) (Kd.R_mono HO_13.out (fun k_ hk => (⟨hk, hk.2⟩ : _ ∧ k_ ≠ gb215))) (fun _ hk => hk.2) (.int .i64 ((rd_T39 l1 x14_2).f0))) (fun _ hk => hk.2) (.int .i64 ((rd_T39 l1 x14_2).f1))) (fun _ hk => ⟨hk.1.1, hk.1.2⟩)⟩
                  have n1_ : Aside0 (((w78.setCell ⟨gb215, 0, none⟩ (.int .i64 ((rd_T39 l1 x14_2).f0))).setCell ⟨gb215, 1, none⟩ (.int .i64 ((rd_T39 l1 x14_2).f1))).heap[gb213]? = some (.cells #[.int .i64 t211, .int .i64 t212] 39 (0, 0))) := ⟨by (with_reducible repeat (first | refine blk_drewN ?_ _ | refine blk_drew ?_ | refine blk_alloc ?_ _)); refine blk_far ?_ NB213_215.out _; (with_reducible repeat (first | refine blk_drewN ?_ _ | refine blk_drew ?_ | refine blk_alloc ?_ _)); refine blk_far ?_ NB213_215.out _; (with_reducible repeat (first | refine blk_drewN ?_ _ | refine blk_drew ?_ | refine blk_alloc ?_ _)); exact BK213.out⟩
                  have n2_ : Aside0 (((w78.setCell ⟨gb215, 0, none⟩ (.int .i64 ((rd_T39 l1 x14_2).f0))).setCell ⟨gb215, 1, none⟩ (.int .i64 ((rd_T39 l1 x14_2).f1))).heap[gb215]? = some (.cells #[.int .i64 ((rd_T39 l1 x14_2).f0), .int .i64 ((rd_T39 l1 x14_2).f1)] 39 (0, 0))) := ⟨by (with_reducible repeat (first | refine blk_drewN ?_ _ | refine blk_drew ?_ | refine blk_alloc ?_ _)); refine blk_put (cs := #[.int .i64 ((rd_T39 l1 x14_2).f0), .int .i64 0]) ?_ 1 _ rfl; (with_reducible repeat (first | refine blk_drewN ?_ _ | refine blk_drew ?_ | refine blk_alloc ?_ _)); refine blk_put (cs := #[.int .i64 0, .int .i64 0]) ?_ 0 _ rfl; (with_reducible repeat (first | refine blk_drewN ?_ _ | refine blk_drew ?_ | refine blk_alloc ?_ _)); exact BK215.out⟩
                  have n3_ : Aside0 (Below w.heap.size w ((w78.setCell ⟨gb215, 0, none⟩ (.int .i64 ((rd_T39 l1 x14_2).f0))).setCell ⟨gb215, 1, none⟩ (.int .i64 ((rd_T39 l1 x14_2).f1)))) := ⟨by repeat (first | (with_reducible first | exact HB.out | apply below_alloc | apply pw_below_drewN | apply below_drew1 | refine below_set ?_ GE213.out | refine below_set ?_ GE215.out) | exact HB.out)⟩
                  (try clear HO_13)
                  (try clear BK213)
                  (try clear BK215)
                  (try clear HB)
                  generalize ((w78.setCell ⟨gb215, 0, none⟩ (.int .i64 ((rd_T39 l1 x14_2).f0))).setCell ⟨gb215, 1, none⟩ (.int .i64 ((rd_T39 l1 x14_2).f1))) = w81 at n0_ n1_ n2_ n3_ ⊢
                  have HO_13 := n0_
                  have BK213 := n1_
                  have BK215 := n2_
                  have HB := n3_
                  clear n0_ n1_ n2_ n3_
                  have n0_ := Aside0.mk (Kd.R_drew HO_13.out)
                  have n1_ := Aside0.mk (blk_drew BK213.out)
                  have n2_ := Aside0.mk (blk_drew BK215.out)
                  have n3_ := Aside0.mk (below_drew1 HB.out)
                  clear HO_13
                  clear BK213
                  clear BK215
                  clear HB
                  have HO_13 := n0_
                  have BK213 := n1_
                  have BK215 := n2_
                  have HB := n3_
                  clear n0_ n1_ n2_ n3_
                  have p230 : 0 ≤ (x14_2 : Int) := of_decide_eq_true (by first | (with_reducible assumption) | assumption)
                  have q230 : x14_2 < (l0.length : Int) := of_decide_eq_true (by first | (with_reducible assumption) | assumption)
                  obtain ⟨ad230, e230, hx230_0, hx230_1, hx230_2⟩ := at_T44 HR0.out x14_2 p230 q230
                  have hw230_2 := hx230_2
                  have hw230_1 := hx230_1
                  have hw230_0 := hx230_0
                  obtain rfl : ad210 = ad230 := (by injection e230)
                  replace hx230_0 := (HB.out.cell (World.block_lt_of_cell? w _ hx230_0)).trans hx230_0
                  replace hx230_1 := (HB.out.cell (World.block_lt_of_cell? w _ hx230_1)).trans hx230_1
                  replace hx230_2 := (HB.out.cell (World.block_lt_of_cell? w _ hx230_2)).trans hx230_2
                  replace p230 := eq_true p230
                  replace q230 := eq_true q230
                  have p231 : 0 ≤ (a2 : Int) := of_decide_eq_true (by first | (with_reducible assumption) | assumption)
                  have q231 : a2 < (l0.length : Int) := of_decide_eq_true (by first | (with_reducible assumption) | assumption)
                  obtain ⟨ad231, e231, hx231_0, hx231_1, hx231_2⟩ := at_T44 HR0.out a2 p231 q231
                  have hw231_2 := hx231_2
                  have hw231_1 := hx231_1
                  have hw231_0 := hx231_0
                  obtain rfl : ad210 = ad231 := (by injection e231)
                  replace hx231_0 := (HB.out.cell (World.block_lt_of_cell? w _ hx231_0)).trans hx231_0
                  replace hx231_1 := (HB.out.cell (World.block_lt_of_cell? w _ hx231_1)).trans hx231_1
                  replace hx231_2 := (HB.out.cell (World.block_lt_of_cell? w _ hx231_2)).trans hx231_2
                  replace p231 := eq_true p231
                  replace q231 := eq_true q231
                  refine start_ (n := 16) (S := fun w' => w'.cell? (ad210.add ((x14_2).toNat * 3)) = some (.int .i64 ((rd_T44 l0 x14_2).f0)) ∧ w'.cell? ⟨(ad210.add ((x14_2).toNat * 3)).block, (ad210.add ((x14_2).toNat * 3)).off + 1, none⟩ = some (.int .i64 ((rd_T44 l0 x14_2).f1)) ∧ w'.cell? ⟨(ad210.add ((x14_2).toNat * 3)).block, (ad210.add ((x14_2).toNat * 3)).off + 2, none⟩ = some (.int .i64 ((rd_T44 l0 x14_2).f2)) ∧ w'.cell? (ad210.add ((a2).toNat * 3)) = some (.int .i64 ((rd_T44 l0 a2).f0)) ∧ w'.cell? ⟨(ad210.add ((a2).toNat * 3)).block, (ad210.add ((a2).toNat * 3)).off + 1, none⟩ = some (.int .i64 ((rd_T44 l0 a2).f1)) ∧ w'.cell? ⟨(ad210.add ((a2).toNat * 3)).block, (ad210.add ((a2).toNat * 3)).off + 2, none⟩ = some (.int .i64 ((rd_T44 l0 a2).f2))) (ds := []) #[n_, n_, n_, n_, n_, n_, n_, n_, n_, n_, n_, n_, n_, n_, n_, n_] (by kernel_rfl) rfl rfl ⟨((HB.out.cell (World.block_lt_of_cell? w _ hw230_0)).trans hw230_0), ((HB.out.cell (World.block_lt_of_cell? w _ hw230_1)).trans hw230_1), ((HB.out.cell (World.block_lt_of_cell? w _ hw230_2)).trans hw230_2), ((HB.out.cell (World.block_lt_of_cell? w _ hw231_0)).trans hw231_0), ((HB.out.cell (World.block_lt_of_cell? w _ hw231_1)).trans hw231_1), ((HB.out.cell (World.block_lt_of_cell? w _ hw231_2)).trans hw231_2)⟩ (fun hHeld => ?_); refine with_tabW cohousingref28_equation.tab16 cohousingref28_equation.bits16 (fun HT_ HW_ => ?_)
                  generalize w81.drew = w82 at HO_13 BK213 BK215 HB hx230_0 hx230_1 hx230_2 hx231_0 hx231_1 hx231_2 hHeld ⊢
                  refine pure_ (i := 0) (N := some 69) (v := ?_) (a' := ?_) #[y_, n_, n_, n_, n_, n_, n_, n_, n_, n_, n_, n_, n_, n_, n_, n_] rfl rfl (any_of HT_.out (by kernel_rfl)) (fun _ _ _ h => h) (Or.inl ⟨by rfl, ?_⟩) ?_ ?_
                  rotate_left
                  ·intro w'
                   go_simp
                   with_reducible rfl
                  rotate_left
                  ·simp only [Act.put, sI_, s0_, sS_, i64_w, i32_w]
                   rfl
                  refine pure_ (i := 1) (N := some 70) (v := ?_) (a' := ?_) #[y_, y_, n_, n_, n_, n_, n_, n_, n_, n_, n_, n_, n_, n_, n_, n_] rfl rfl (any_of HT_.out (by kernel_rfl)) (fun _ _ _ h => h) (Or.inl ⟨by rfl, ?_⟩) ?_ ?_
                  rotate_left
                  ·intro w'
                   go_simp
                   with_reducible rfl
                  rotate_left
                  ·simp only [Act.put, sI_, s0_, sS_, i64_w, i32_w]
                   rfl
                  refine pure_ (i := 2) (N := some 71) (v := ?_) (a' := ?_) #[y_, y_, y_, n_, n_, n_, n_, n_, n_, n_, n_, n_, n_, n_, n_, n_] rfl rfl (any_of HT_.out (by kernel_rfl)) (fun _ _ _ h => h) (Or.inl ⟨by rfl, ?_⟩) ?_ ?_
                  rotate_left
                  ·intro w'
                   go_simp
                   with_reducible rfl
                  rotate_left
                  ·simp only [Act.put, sI_, s0_, sS_, i64_w, i32_w]
                   rfl
                  refine pure_ (i := 3) (N := some 72) (v := ?_) (a' := ?_) #[y_, y_, y_, y_, n_, n_, n_, n_, n_, n_, n_, n_, n_, n_, n_, n_] rfl rfl (any_of HT_.out (by kernel_rfl)) (fun _ _ _ h => h) (Or.inl ⟨by rfl, ?_⟩) ?_ ?_
                  rotate_left
                  ·intro w'
                   go_simp
                   with_reducible rfl
                  rotate_left
                  ·simp only [Act.put, sI_, s0_, sS_, i64_w, i32_w]
                   rfl
                  refine pure_ (i := 4) (N := some 73) (v := ?_) (a' := ?_) #[y_, y_, y_, y_, y_, n_, n_, n_, n_, n_, n_, n_, n_, n_, n_, n_] rfl rfl (any_of HT_.out (by kernel_rfl)) (fun _ _ _ h => h) (Or.inl ⟨by rfl, ?_⟩) ?_ ?_
                  rotate_left
                  ·intro w'
                   go_simp
                   with_reducible rfl
                  rotate_left
                  ·simp only [Act.put, sI_, s0_, sS_, i64_w, i32_w]
                   rfl
                  refine pure_ (i := 5) (N := some 74) (v := ?_) (a' := ?_) #[y_, y_, y_, y_, y_, y_, n_, n_, n_, n_, n_, n_, n_, n_, n_, n_] rfl rfl (any_of HT_.out (by kernel_rfl)) (fun _ _ _ h => h) (Or.inl ⟨by rfl, ?_⟩) ?_ ?_
                  rotate_left
                  ·intro w'
                   go_simp
                   with_reducible rfl
                  rotate_left
                  ·simp only [Act.put, sI_, s0_, sS_, i64_w, i32_w]
                   rfl
                  refine pure_ (i := 6) (N := some 75) (v := ?_) (a' := ?_) #[y_, y_, y_, y_, y_, y_, y_, n_, n_, n_, n_, n_, n_, n_, n_, n_] rfl rfl (any_of HT_.out (by kernel_rfl)) (fun _ _ _ h => h) (Or.inl ⟨by rfl, ?_⟩) ?_ ?_
                  rotate_left
                  ·intro w'
                   go_simp
                   with_reducible rfl
                  rotate_left
                  ·simp only [Act.put, sI_, s0_, sS_, i64_w, i32_w]
                   rfl
                  refine pure_ (i := 7) (N := some 76) (v := ?_) (a' := ?_) #[y_, y_, y_, y_, y_, y_, y_, y_, n_, n_, n_, n_, n_, n_, n_, n_] rfl rfl (any_of HT_.out (by kernel_rfl)) (fun _ _ _ h => h) (Or.inl ⟨by rfl, ?_⟩) ?_ ?_
                  rotate_left
                  ·intro w'
                   go_simp
                   with_reducible rfl
                  rotate_left
                  ·simp only [Act.put, sI_, s0_, sS_, i64_w, i32_w]
                   rfl
                  refine pure_ (i := 9) (N := some 78) (v := ?_) (a' := ?_) #[y_, y_, y_, y_, y_, y_, y_, y_, n_, y_, n_, n_, n_, n_, n_, n_] rfl rfl (any_of HT_.out (by kernel_rfl)) (fun _ _ _ h => h) (Or.inl ⟨by rfl, ?_⟩) ?_ ?_
                  rotate_left
                  ·intro w'
                   go_simp
                   with_reducible rfl
                  rotate_left
                  ·simp only [Act.put, sI_, s0_, sS_, i64_w, i32_w]
                   rfl
                  refine pure_ (i := 10) (N := some 79) (v := ?_) (a' := ?_) #[y_, y_, y_, y_, y_, y_, y_, y_, n_, y_, y_, n_, n_, n_, n_, n_] rfl rfl (any_of HT_.out (by kernel_rfl)) (fun _ _ _ h => h) (Or.inl ⟨by rfl, ?_⟩) ?_ ?_
                  rotate_left
                  ·intro w'
                   go_simp
                   with_reducible rfl
                  rotate_left
                  ·simp only [Act.put, sI_, s0_, sS_, i64_w, i32_w]
                   rfl
                  refine pure_ (i := 11) (N := some 80) (v := ?_) (a' := ?_) #[y_, y_, y_, y_, y_, y_, y_, y_, n_, y_, y_, y_, n_, n_, n_, n_] rfl rfl (any_of HT_.out (by kernel_rfl)) (fun _ _ _ h => h) (Or.inl ⟨by rfl, ?_⟩) ?_ ?_
                  rotate_left
                  ·intro w'
                   go_simp
                   with_reducible rfl
                  rotate_left
                  ·simp only [Act.put, sI_, s0_, sS_, i64_w, i32_w]
                   rfl
                  refine pure_ (i := 12) (N := some 81) (v := ?_) (a' := ?_) #[y_, y_, y_, y_, y_, y_, y_, y_, n_, y_, y_, y_, y_, n_, n_, n_] rfl rfl (any_of HT_.out (by kernel_rfl)) (fun _ _ _ h => h) (Or.inl ⟨by rfl, ?_⟩) ?_ ?_
                  rotate_left
                  ·intro w'
                   go_simp
                   with_reducible rfl
                  rotate_left
                  ·simp only [Act.put, sI_, s0_, sS_, i64_w, i32_w]
                   rfl
                  refine take_ (i := 8) (N := some 77) (v := ?_) (a' := ?_) #[y_, y_, y_, y_, y_, y_, y_, y_, y_, y_, y_, y_, y_, n_, n_, n_] rfl rfl (take_ofW HT_.out HW_.out (by kernel_rfl)) (fun _ _ _ h => h) (Or.inl ⟨by rfl, ?_⟩) hHeld ?_ ?_
                  rotate_left
                  ·rintro w' ⟨s0, s1, s2, s3, s4, s5⟩
                   go_simp
                   with_reducible rfl
                  rotate_left
                  ·simp only [Act.put, sI_, s0_, sS_, i64_w, i32_w]
                   rfl
                  refine take_ (i := 13) (N := some 82) (v := ?_) (a' := ?_) #[y_, y_, y_, y_, y_, y_, y_, y_, y_, y_, y_, y_, y_, y_, n_, n_] rfl rfl (take_ofW HT_.out HW_.out (by kernel_rfl)) (fun _ _ _ h => h) (Or.inl ⟨by rfl, ?_⟩) hHeld ?_ ?_
                  rotate_left
                  ·rintro w' ⟨s0, s1, s2, s3, s4, s5⟩
                   go_simp
                   with_reducible rfl
                  rotate_left
                  ·simp only [Act.put, sI_, s0_, sS_, i64_w, i32_w]
                   rfl
                  refine pure_ (i := 14) (N := some 83) (v := ?_) (a' := ?_) #[y_, y_, y_, y_, y_, y_, y_, y_, y_, y_, y_, y_, y_, y_, y_, n_] rfl rfl (any_of HT_.out (by kernel_rfl)) (fun _ _ _ h => h) (Or.inl ⟨by rfl, ?_⟩) ?_ ?_
                  rotate_left
                  ·intro w'
                   go_simp
                   with_reducible rfl
                  rotate_left
                  ·simp only [Act.put, sI_, s0_, sS_, i64_w, i32_w]
                   rfl
                  refine pure_ (i := 15) (N := some 84) (v := ?_) (a' := ?_) #[y_, y_, y_, y_, y_, y_, y_, y_, y_, y_, y_, y_, y_, y_, y_, y_] rfl rfl (any_of HT_.out (by kernel_rfl)) (fun _ _ _ h => h) (Or.inl ⟨by rfl, ?_⟩) ?_ ?_
                  rotate_left
                  ·intro w'
                   go_simp
                   with_reducible rfl
                  rotate_left
                  ·simp only [Act.put, sI_, s0_, sS_, i64_w, i32_w]
                   rfl
                  refine done_ (done_of HT_.out (by kernel_rfl)) ?_
                  have hcz83_0 : w82.cell? ⟨gb215, 0, none⟩ = some (.int .i64 ((rd_T39 l1 x14_2).f0)) := (blk_cell BK215.out 0).trans rfl
                  have hcz83_1 : w82.cell? ⟨gb215, 1, none⟩ = some (.int .i64 ((rd_T39 l1 x14_2).f1)) := (blk_cell BK215.out 1).trans rfl
                  have hfz83_0 := blk_frozen BK215.out 0
                  have hfz83_1 := blk_frozen BK215.out 1
                  try go_wp2_with (first | ((with_reducible refine gate_builtin (b := .append) (xs := #[.tmp 107, .tmp 109]) rfl ?_); at_builtin; refine Kd.R_append k39 (w0 := w) w.heap.size rfl (.tmp 107) (.tmp 109) 23 39 (.agg #[(.int .i64 0), (.int .i64 0)]) 16 rfl Try.underlying23 info39 rfl (by decide) (by omega) u13 x13_2 (⟨(rd_T39 l1 x14_2).f0, (rd_T39 l1 x14_2).f1⟩ : S39) [.int .i64 ((rd_T39 l1 x14_2).f0), .int .i64 ((rd_T39 l1 x14_2).f1)] (fun k_ => k_ ≠ gb213 ∧ k_ ≠ gb215) (fun _ => False) rfl rfl ?aP (fun _ hk => hk.elim) ?aF ?aO ?aB ?aS ?aL ?_; (case aP => exact k39_mkM _ _ _ (⟨(rd_T39 l1 x14_2).f0, (rd_T39 l1 x14_2).f1⟩ : S39)); (case aB => exact (by repeat (first | (with_reducible first | exact HB.out | apply below_alloc | apply pw_below_drewN | apply below_drew1 | refine below_set ?_ GE213.out | refine below_set ?_ GE215.out) | exact HB.out))); (case aF => exact (fun k_ hk => ⟨Kd.freshB (g := gb213) (o := .cells #[.int .i64 t211, .int .i64 t212] 39 (0, 0)) (by (with_reducible repeat (first | refine blk_drewN ?_ _ | refine blk_drew ?_ | refine blk_alloc ?_ _)); exact BK213.out) k_ hk, Kd.freshB (g := gb215) (o := .cells #[.int .i64 ((rd_T39 l1 x14_2).f0), .int .i64 ((rd_T39 l1 x14_2).f1)] 39 (0, 0)) (by (with_reducible repeat (first | refine blk_drewN ?_ _ | refine blk_drew ?_ | refine blk_alloc ?_ _)); exact BK215.out) k_ hk⟩)); (case aO => exact (by (with_reducible repeat (first | apply Kd.R_alloc | apply Kd.R_drewN | apply Kd.R_drew)); exact HO_13.out)); (case aS => exact (below_size (by repeat (first | (with_reducible first | exact HB.out | apply below_alloc | apply pw_below_drewN | apply below_drew1 | refine below_set ?_ GE213.out | refine below_set ?_ GE215.out) | exact HB.out)))); (case aL => have := LMc77.out; omega); intro v239 w84 ho hb hg hat; rw [← Ny238.out] at ho; have n0_ := Aside0.mk (blk_grown (g := gb213) (o := .cells #[.int .i64 t211, .int .i64 t212] 39 (0, 0)) (by (with_reducible repeat (first | refine blk_drewN ?_ _ | refine blk_drew ?_ | refine blk_alloc ?_ _)); exact BK213.out) hg (Kd.R_away HO_13.out (fun _ hk => hk.1))); have n1_ := Aside0.mk (blk_grown (g := gb215) (o := .cells #[.int .i64 ((rd_T39 l1 x14_2).f0), .int .i64 ((rd_T39 l1 x14_2).f1)] 39 (0, 0)) (by (with_reducible repeat (first | refine blk_drewN ?_ _ | refine blk_drew ?_ | refine blk_alloc ?_ _)); exact BK215.out) hg (Kd.R_away HO_13.out (fun _ hk => hk.2))); have n2_ := Aside0.mk (hb); have n3_ := Aside0.mk (ho); clear BK213; clear BK215; clear HB; clear HO_13; have BK213 := n0_; have BK215 := n1_; have HB := n2_; have HO240 := n3_; clear n0_ n1_ n2_ n3_; clear ho hb hg hat))
                  go_roundg k2
                  case measure => have := HK1.out; have := HK2.out; omega
                  case rel => exact ⟨(y238), (wrap64 (x14_2 + 1)), (by first | rfl | (simp; done) | (simp [*]; done)), H', ⟨by have := HK1.out; have := HK2.out; omega⟩, ⟨by (with_reducible repeat (first | apply Kd.R_alloc | apply Kd.R_drewN | apply Kd.R_drew)); exact Kd.R_mono HO240.out (fun _ hk => hk.1)⟩, ⟨by (with_reducible repeat (first | refine blk_drewN ?_ _ | refine blk_drew ?_ | refine blk_alloc ?_ _)); exact BK213.out⟩, ⟨by repeat (first | (with_reducible first | exact HB.out | apply below_alloc | apply pw_below_drewN | apply below_drew1 | refine below_set ?_ GE213.out | refine below_set ?_ GE215.out) | exact HB.out)⟩⟩
                 ·rw [if_neg c77] at H
                  exact absurd H (by simp)
               ·rw [if_neg c62] at H
                exact absurd H (by simp)
              ·rw [if_neg c61] at H
               exact absurd H (by simp)
             ·rw [if_neg c60] at H
              exact absurd H (by simp)
            ·rw [if_neg c59] at H
             have c59b0 : decide (a2 < x14_2) = false := decide_eq_false c59
             clear c59
             by_cases c85 : x13_2.length < 8796093022208
             ·rw [if_pos c85] at H
              have LMc85 := Aside0.mk c85
              clear c85
              obtain ⟨y241, hy241⟩ : ∃ y_ : List (S39), y_ = (x13_2 ++ [(⟨(rd_T39 l1 x14_2).f0, (rd_T39 l1 x14_2).f1⟩ : S39)]) := ⟨_, rfl⟩
              replace H : (cohousingref28_equation.l1 k2 l0 l1 a2 x9_1 x10_1 y241 (wrap64 (x14_2 + 1)) t211 t212) = some r := by first | (rw [hy241]; with_reducible exact H) | (have H2_ := (Option.bind_some _ _).symm.trans H; rw [hy241]; with_reducible exact H2_) | (have H2_ := (Option.bind_some _ _).symm.trans H; with_reducible exact H2_) | with_reducible exact H | (rw [hy241]; exact H) | exact H
              have Ny241 := Aside0.mk hy241
              clear hy241
              have H' := Aside0.mk H
              clear H
              have p214 : 0 ≤ (x14_2 : Int) := of_decide_eq_true (by first | (with_reducible assumption) | assumption)
              have q214 : x14_2 < (l1.length : Int) := of_decide_eq_true (by first | (with_reducible assumption) | assumption)
              obtain ⟨ad214, e214, hx214_0, hx214_1⟩ := at_T39 HR1.out x14_2 p214 q214
              obtain rfl : ad209 = ad214 := (by injection e214)
              replace hx214_0 := (HB.out.cell (World.block_lt_of_cell? w _ hx214_0)).trans hx214_0
              replace hx214_1 := (HB.out.cell (World.block_lt_of_cell? w _ hx214_1)).trans hx214_1
              replace p214 := eq_true p214
              replace q214 := eq_true q214
              try go_wp2_with (first | ((with_reducible refine gate_dst (N := 15) rfl ?_); refine box_event ?hg (N := 15) ?hd (cs := #[.int .i64 0, .int .i64 0]) (t := 39) ?hr ?_; (case hd => rfl); (case hg => rfl); (case hr => first | (go_simp; done) | (go_simp; rfl)); intro gb215 hg w86 hbox hb; have n0_ := Aside0.mk (Kd.R_below (Kd.R_elderB (by (with_reducible repeat (first | apply Kd.R_alloc | apply Kd.R_drewN | apply Kd.R_drew)); exact HO_13.out) gb215 (Nat.le_of_eq hg.symm)) hb); have n1_ := Aside0.mk (blk_below (g := gb213) (o := .cells #[.int .i64 t211, .int .i64 t212] 39 (0, 0)) (by (with_reducible repeat (first | refine blk_drewN ?_ _ | refine blk_drew ?_ | refine blk_alloc ?_ _)); exact BK213.out) hb); have n2_ := Aside0.mk (below_step (by repeat (first | (with_reducible first | exact HB.out | apply below_alloc | apply pw_below_drewN | apply below_drew1 | refine below_set ?_ GE213.out) | exact HB.out)) hb); have n3_ := Aside0.mk (hbox); have n4_ := Aside0.mk ((by rw [hg]; exact (below_size (by repeat (first | (with_reducible first | exact HB.out | apply below_alloc | apply pw_below_drewN | apply below_drew1 | refine below_set ?_ GE213.out) | exact HB.out))) : w.heap.size ≤ gb215)); have n5_ := Aside0.mk ((by rw [hg]; exact (below_size (by repeat (first | (with_reducible first | exact HB.out | apply below_alloc | apply pw_below_drewN | apply below_drew1 | refine below_set ?_ GE213.out) | exact HB.out))) : w.heap.size ≤ gb215)); have n6_ := Aside0.mk ((by rw [hg]; exact Nat.ne_of_lt (blk_lt (g := gb213) (o := .cells #[.int .i64 t211, .int .i64 t212] 39 (0, 0)) (by (with_reducible repeat (first | refine blk_drewN ?_ _ | refine blk_drew ?_ | refine blk_alloc ?_ _)); exact BK213.out)) : gb213 ≠ gb215)); have n7_ := Aside0.mk ((by rw [hg]; exact Nat.ne_of_gt (blk_lt (g := gb213) (o := .cells #[.int .i64 t211, .int .i64 t212] 39 (0, 0)) (by (with_reducible repeat (first | refine blk_drewN ?_ _ | refine blk_drew ?_ | refine blk_alloc ?_ _)); exact BK213.out)) : gb215 ≠ gb213)); clear HO_13; clear BK213; clear HB; have HO_13 := n0_; have BK213 := n1_; have HB := n2_; have BK215 := n3_; have GW215 := n4_; have GE215 := n5_; have NB213_215 := n6_; have NB215_213 := n7_; clear n0_ n1_ n2_ n3_ n4_ n5_ n6_ n7_; clear hb hbox hg; have hnb87 := NB215_213.out; have hnc87 := NB213_215.out; have hcz88_0 : w86.cell? ⟨gb215, 0, none⟩ = some (.int .i64 0) := (blk_cell BK215.out 0).trans rfl; have hcz88_1 : w86.cell? ⟨gb215, 1, none⟩ = some (.int .i64 0) := (blk_cell BK215.out 1).trans rfl; have hfz88_0 := blk_frozen BK215.out 0; have hfz88_1 := blk_frozen BK215.out 1))
              have n0_ : Aside0 (Kd.R k39 39 ((w86.setCell ⟨gb215, 0, none⟩ (.int .i64 ((rd_T39 l1 x14_2).f0))).setCell ⟨gb215, 1, none⟩ (.int .i64 ((rd_T39 l1 x14_2).f1))) w.heap.size (fun k_ => k_ ≠ gb213 ∧ k_ ≠ gb215) u13 x13_2) := ⟨by (with_reducible repeat (first | apply Kd.R_alloc | apply Kd.R_drewN | apply Kd.R_drew)); exact Kd.R_mono (Kd.R_far (p := ⟨gb215, 1, none⟩) (Kd.R_far (p := ⟨gb215, 0, none⟩) (Kd.R_mono HO_13.out (fun k_ hk => (⟨hk, hk.2⟩ : _ ∧ k_ ≠ gb215))) (fun _ hk => hk.2) (.int .i64 ((rd_T39 l1 x14_2).f0))) (fun _ hk => hk.2) (.int .i64 ((rd_T39 l1 x14_2).f1))) (fun _ hk => ⟨hk.1.1, hk.1.2⟩)⟩
              have n1_ : Aside0 (((w86.setCell ⟨gb215, 0, none⟩ (.int .i64 ((rd_T39 l1 x14_2).f0))).setCell ⟨gb215, 1, none⟩ (.int .i64 ((rd_T39 l1 x14_2).f1))).heap[gb213]? = some (.cells #[.int .i64 t211, .int .i64 t212] 39 (0, 0))) := ⟨by (with_reducible repeat (first | refine blk_drewN ?_ _ | refine blk_drew ?_ | refine blk_alloc ?_ _)); refine blk_far ?_ NB213_215.out _; (with_reducible repeat (first | refine blk_drewN ?_ _ | refine blk_drew ?_ | refine blk_alloc ?_ _)); refine blk_far ?_ NB213_215.out _; (with_reducible repeat (first | refine blk_drewN ?_ _ | refine blk_drew ?_ | refine blk_alloc ?_ _)); exact BK213.out⟩
              have n2_ : Aside0 (((w86.setCell ⟨gb215, 0, none⟩ (.int .i64 ((rd_T39 l1 x14_2).f0))).setCell ⟨gb215, 1, none⟩ (.int .i64 ((rd_T39 l1 x14_2).f1))).heap[gb215]? = some (.cells #[.int .i64 ((rd_T39 l1 x14_2).f0), .int .i64 ((rd_T39 l1 x14_2).f1)] 39 (0, 0))) := ⟨by (with_reducible repeat (first | refine blk_drewN ?_ _ | refine blk_drew ?_ | refine blk_alloc ?_ _)); refine blk_put (cs := #[.int .i64 ((rd_T39 l1 x14_2).f0), .int .i64 0]) ?_ 1 _ rfl; (with_reducible repeat (first | refine blk_drewN ?_ _ | refine blk_drew ?_ | refine blk_alloc ?_ _)); refine blk_put (cs := #[.int .i64 0, .int .i64 0]) ?_ 0 _ rfl; (with_reducible repeat (first | refine blk_drewN ?_ _ | refine blk_drew ?_ | refine blk_alloc ?_ _)); exact BK215.out⟩
              have n3_ : Aside0 (Below w.heap.size w ((w86.setCell ⟨gb215, 0, none⟩ (.int .i64 ((rd_T39 l1 x14_2).f0))).setCell ⟨gb215, 1, none⟩ (.int .i64 ((rd_T39 l1 x14_2).f1)))) := ⟨by repeat (first | (with_reducible first | exact HB.out | apply below_alloc | apply pw_below_drewN | apply below_drew1 | refine below_set ?_ GE213.out | refine below_set ?_ GE215.out) | exact HB.out)⟩
              (try clear HO_13)
              (try clear BK213)
              (try clear BK215)
              (try clear HB)
              generalize ((w86.setCell ⟨gb215, 0, none⟩ (.int .i64 ((rd_T39 l1 x14_2).f0))).setCell ⟨gb215, 1, none⟩ (.int .i64 ((rd_T39 l1 x14_2).f1))) = w89 at n0_ n1_ n2_ n3_ ⊢
              have HO_13 := n0_
              have BK213 := n1_
              have BK215 := n2_
              have HB := n3_
              clear n0_ n1_ n2_ n3_
              have n0_ := Aside0.mk (Kd.R_drew HO_13.out)
              have n1_ := Aside0.mk (blk_drew BK213.out)
              have n2_ := Aside0.mk (blk_drew BK215.out)
              have n3_ := Aside0.mk (below_drew1 HB.out)
              clear HO_13
              clear BK213
              clear BK215
              clear HB
              have HO_13 := n0_
              have BK213 := n1_
              have BK215 := n2_
              have HB := n3_
              clear n0_ n1_ n2_ n3_
              refine start_ (n := 16) (S := fun w' => True) (ds := []) #[n_, n_, n_, n_, n_, n_, n_, n_, n_, n_, n_, n_, n_, n_, n_, n_] (by kernel_rfl) rfl rfl trivial (fun hHeld => ?_); refine with_tabW cohousingref28_equation.tab16 cohousingref28_equation.bits16 (fun HT_ HW_ => ?_)
              generalize w89.drew = w90 at HO_13 BK213 BK215 HB hHeld ⊢
              refine pure_ (i := 0) (N := some 69) (v := ?_) (a' := ?_) #[y_, n_, n_, n_, n_, n_, n_, n_, n_, n_, n_, n_, n_, n_, n_, n_] rfl rfl (any_of HT_.out (by kernel_rfl)) (fun _ _ _ h => h) (Or.inl ⟨by rfl, ?_⟩) ?_ ?_
              rotate_left
              ·intro w'
               go_simp
               with_reducible rfl
              rotate_left
              ·simp only [Act.put, sI_, s0_, sS_, i64_w, i32_w]
               rfl
              refine pure_ (i := 1) (N := some 70) (v := ?_) (a' := ?_) #[y_, y_, n_, n_, n_, n_, n_, n_, n_, n_, n_, n_, n_, n_, n_, n_] rfl rfl (any_of HT_.out (by kernel_rfl)) (fun _ _ _ h => h) (Or.inl ⟨by rfl, ?_⟩) ?_ ?_
              rotate_left
              ·intro w'
               go_simp
               with_reducible rfl
              rotate_left
              ·simp only [Act.put, sI_, s0_, sS_, i64_w, i32_w]
               rfl
              refine pure_ (i := 2) (N := some 71) (v := ?_) (a' := ?_) #[y_, y_, y_, n_, n_, n_, n_, n_, n_, n_, n_, n_, n_, n_, n_, n_] rfl rfl (any_of HT_.out (by kernel_rfl)) (fun _ _ _ h => h) (Or.inl ⟨by rfl, ?_⟩) ?_ ?_
              rotate_left
              ·intro w'
               go_simp
               with_reducible rfl
              rotate_left
              ·simp only [Act.put, sI_, s0_, sS_, i64_w, i32_w]
               rfl
              refine pure_ (i := 3) (N := some 72) (v := ?_) (a' := ?_) #[y_, y_, y_, y_, n_, n_, n_, n_, n_, n_, n_, n_, n_, n_, n_, n_] rfl rfl (any_of HT_.out (by kernel_rfl)) (fun _ _ _ h => h) (Or.inl ⟨by rfl, ?_⟩) ?_ ?_
              rotate_left
              ·intro w'
               go_simp
               with_reducible rfl
              rotate_left
              ·simp only [Act.put, sI_, s0_, sS_, i64_w, i32_w]
               rfl
              refine pure_ (i := 4) (N := some 73) (v := undef) (a' := ?_) #[y_, y_, y_, y_, y_, n_, n_, n_, n_, n_, n_, n_, n_, n_, n_, n_] rfl rfl (any_of HT_.out (by kernel_rfl)) (fun _ _ _ h => h) (Or.inr ⟨by rfl, rfl⟩) ?_ ?_
              rotate_left
              ·simp only [Act.put, sI_, s0_, sS_, i64_w, i32_w]
               rfl
              refine pure_ (i := 5) (N := some 74) (v := undef) (a' := ?_) #[y_, y_, y_, y_, y_, y_, n_, n_, n_, n_, n_, n_, n_, n_, n_, n_] rfl rfl (any_of HT_.out (by kernel_rfl)) (fun _ _ _ h => h) (Or.inr ⟨by rfl, rfl⟩) ?_ ?_
              rotate_left
              ·simp only [Act.put, sI_, s0_, sS_, i64_w, i32_w]
               rfl
              refine pure_ (i := 6) (N := some 75) (v := undef) (a' := ?_) #[y_, y_, y_, y_, y_, y_, y_, n_, n_, n_, n_, n_, n_, n_, n_, n_] rfl rfl (any_of HT_.out (by kernel_rfl)) (fun _ _ _ h => h) (Or.inr ⟨by rfl, rfl⟩) ?_ ?_
              rotate_left
              ·simp only [Act.put, sI_, s0_, sS_, i64_w, i32_w]
               rfl
              refine pure_ (i := 7) (N := some 76) (v := undef) (a' := ?_) #[y_, y_, y_, y_, y_, y_, y_, y_, n_, n_, n_, n_, n_, n_, n_, n_] rfl rfl (any_of HT_.out (by kernel_rfl)) (fun _ _ _ h => h) (Or.inr ⟨by rfl, rfl⟩) ?_ ?_
              rotate_left
              ·simp only [Act.put, sI_, s0_, sS_, i64_w, i32_w]
               rfl
              refine pure_ (i := 8) (N := some 77) (v := undef) (a' := ?_) #[y_, y_, y_, y_, y_, y_, y_, y_, y_, n_, n_, n_, n_, n_, n_, n_] rfl rfl (any_of HT_.out (by kernel_rfl)) (fun _ _ _ h => h) (Or.inr ⟨by rfl, rfl⟩) ?_ ?_
              rotate_left
              ·simp only [Act.put, sI_, s0_, sS_, i64_w, i32_w]
               rfl
              refine pure_ (i := 9) (N := some 78) (v := undef) (a' := ?_) #[y_, y_, y_, y_, y_, y_, y_, y_, y_, y_, n_, n_, n_, n_, n_, n_] rfl rfl (any_of HT_.out (by kernel_rfl)) (fun _ _ _ h => h) (Or.inr ⟨by rfl, rfl⟩) ?_ ?_
              rotate_left
              ·simp only [Act.put, sI_, s0_, sS_, i64_w, i32_w]
               rfl
              refine pure_ (i := 10) (N := some 79) (v := undef) (a' := ?_) #[y_, y_, y_, y_, y_, y_, y_, y_, y_, y_, y_, n_, n_, n_, n_, n_] rfl rfl (any_of HT_.out (by kernel_rfl)) (fun _ _ _ h => h) (Or.inr ⟨by rfl, rfl⟩) ?_ ?_
              rotate_left
              ·simp only [Act.put, sI_, s0_, sS_, i64_w, i32_w]
               rfl
              refine pure_ (i := 11) (N := some 80) (v := undef) (a' := ?_) #[y_, y_, y_, y_, y_, y_, y_, y_, y_, y_, y_, y_, n_, n_, n_, n_] rfl rfl (any_of HT_.out (by kernel_rfl)) (fun _ _ _ h => h) (Or.inr ⟨by rfl, rfl⟩) ?_ ?_
              rotate_left
              ·simp only [Act.put, sI_, s0_, sS_, i64_w, i32_w]
               rfl
              refine pure_ (i := 12) (N := some 81) (v := undef) (a' := ?_) #[y_, y_, y_, y_, y_, y_, y_, y_, y_, y_, y_, y_, y_, n_, n_, n_] rfl rfl (any_of HT_.out (by kernel_rfl)) (fun _ _ _ h => h) (Or.inr ⟨by rfl, rfl⟩) ?_ ?_
              rotate_left
              ·simp only [Act.put, sI_, s0_, sS_, i64_w, i32_w]
               rfl
              refine pure_ (i := 13) (N := some 82) (v := undef) (a' := ?_) #[y_, y_, y_, y_, y_, y_, y_, y_, y_, y_, y_, y_, y_, y_, n_, n_] rfl rfl (any_of HT_.out (by kernel_rfl)) (fun _ _ _ h => h) (Or.inr ⟨by rfl, rfl⟩) ?_ ?_
              rotate_left
              ·simp only [Act.put, sI_, s0_, sS_, i64_w, i32_w]
               rfl
              refine pure_ (i := 14) (N := some 83) (v := undef) (a' := ?_) #[y_, y_, y_, y_, y_, y_, y_, y_, y_, y_, y_, y_, y_, y_, y_, n_] rfl rfl (any_of HT_.out (by kernel_rfl)) (fun _ _ _ h => h) (Or.inr ⟨by rfl, rfl⟩) ?_ ?_
              rotate_left
              ·simp only [Act.put, sI_, s0_, sS_, i64_w, i32_w]
               rfl
              refine pure_ (i := 15) (N := some 84) (v := ?_) (a' := ?_) #[y_, y_, y_, y_, y_, y_, y_, y_, y_, y_, y_, y_, y_, y_, y_, y_] rfl rfl (any_of HT_.out (by kernel_rfl)) (fun _ _ _ h => h) (Or.inl ⟨by rfl, ?_⟩) ?_ ?_
              rotate_left
              ·intro w'
               go_simp
               with_reducible rfl
              rotate_left
              ·simp only [Act.put, sI_, s0_, sS_, i64_w, i32_w]
               rfl
              refine done_ (done_of HT_.out (by kernel_rfl)) ?_
              have hcz91_0 : w90.cell? ⟨gb215, 0, none⟩ = some (.int .i64 ((rd_T39 l1 x14_2).f0)) := (blk_cell BK215.out 0).trans rfl
              have hcz91_1 : w90.cell? ⟨gb215, 1, none⟩ = some (.int .i64 ((rd_T39 l1 x14_2).f1)) := (blk_cell BK215.out 1).trans rfl
              have hfz91_0 := blk_frozen BK215.out 0
              have hfz91_1 := blk_frozen BK215.out 1
              try go_wp2_with (first | ((with_reducible refine gate_builtin (b := .append) (xs := #[.tmp 107, .tmp 109]) rfl ?_); at_builtin; refine Kd.R_append k39 (w0 := w) w.heap.size rfl (.tmp 107) (.tmp 109) 23 39 (.agg #[(.int .i64 0), (.int .i64 0)]) 16 rfl Try.underlying23 info39 rfl (by decide) (by omega) u13 x13_2 (⟨(rd_T39 l1 x14_2).f0, (rd_T39 l1 x14_2).f1⟩ : S39) [.int .i64 ((rd_T39 l1 x14_2).f0), .int .i64 ((rd_T39 l1 x14_2).f1)] (fun k_ => k_ ≠ gb213 ∧ k_ ≠ gb215) (fun _ => False) rfl rfl ?aP (fun _ hk => hk.elim) ?aF ?aO ?aB ?aS ?aL ?_; (case aP => exact k39_mkM _ _ _ (⟨(rd_T39 l1 x14_2).f0, (rd_T39 l1 x14_2).f1⟩ : S39)); (case aB => exact (by repeat (first | (with_reducible first | exact HB.out | apply below_alloc | apply pw_below_drewN | apply below_drew1 | refine below_set ?_ GE213.out | refine below_set ?_ GE215.out) | exact HB.out))); (case aF => exact (fun k_ hk => ⟨Kd.freshB (g := gb213) (o := .cells #[.int .i64 t211, .int .i64 t212] 39 (0, 0)) (by (with_reducible repeat (first | refine blk_drewN ?_ _ | refine blk_drew ?_ | refine blk_alloc ?_ _)); exact BK213.out) k_ hk, Kd.freshB (g := gb215) (o := .cells #[.int .i64 ((rd_T39 l1 x14_2).f0), .int .i64 ((rd_T39 l1 x14_2).f1)] 39 (0, 0)) (by (with_reducible repeat (first | refine blk_drewN ?_ _ | refine blk_drew ?_ | refine blk_alloc ?_ _)); exact BK215.out) k_ hk⟩)); (case aO => exact (by (with_reducible repeat (first | apply Kd.R_alloc | apply Kd.R_drewN | apply Kd.R_drew)); exact HO_13.out)); (case aS => exact (below_size (by repeat (first | (with_reducible first | exact HB.out | apply below_alloc | apply pw_below_drewN | apply below_drew1 | refine below_set ?_ GE213.out | refine below_set ?_ GE215.out) | exact HB.out)))); (case aL => have := LMc85.out; omega); intro v242 w92 ho hb hg hat; rw [← Ny241.out] at ho; have n0_ := Aside0.mk (blk_grown (g := gb213) (o := .cells #[.int .i64 t211, .int .i64 t212] 39 (0, 0)) (by (with_reducible repeat (first | refine blk_drewN ?_ _ | refine blk_drew ?_ | refine blk_alloc ?_ _)); exact BK213.out) hg (Kd.R_away HO_13.out (fun _ hk => hk.1))); have n1_ := Aside0.mk (blk_grown (g := gb215) (o := .cells #[.int .i64 ((rd_T39 l1 x14_2).f0), .int .i64 ((rd_T39 l1 x14_2).f1)] 39 (0, 0)) (by (with_reducible repeat (first | refine blk_drewN ?_ _ | refine blk_drew ?_ | refine blk_alloc ?_ _)); exact BK215.out) hg (Kd.R_away HO_13.out (fun _ hk => hk.2))); have n2_ := Aside0.mk (hb); have n3_ := Aside0.mk (ho); clear BK213; clear BK215; clear HB; clear HO_13; have BK213 := n0_; have BK215 := n1_; have HB := n2_; have HO243 := n3_; clear n0_ n1_ n2_ n3_; clear ho hb hg hat))
              go_roundg k2
              case measure => have := HK1.out; have := HK2.out; omega
              case rel => exact ⟨(y241), (wrap64 (x14_2 + 1)), (by first | rfl | (simp; done) | (simp [*]; done)), H', ⟨by have := HK1.out; have := HK2.out; omega⟩, ⟨by (with_reducible repeat (first | apply Kd.R_alloc | apply Kd.R_drewN | apply Kd.R_drew)); exact Kd.R_mono HO243.out (fun _ hk => hk.1)⟩, ⟨by (with_reducible repeat (first | refine blk_drewN ?_ _ | refine blk_drew ?_ | refine blk_alloc ?_ _)); exact BK213.out⟩, ⟨by repeat (first | (with_reducible first | exact HB.out | apply below_alloc | apply pw_below_drewN | apply below_drew1 | refine below_set ?_ GE213.out | refine below_set ?_ GE215.out) | exact HB.out)⟩⟩
             ·rw [if_neg c85] at H
              exact absurd H (by simp)
          ·rw [if_neg c20] at H
           exact absurd H (by simp)
         ·rw [if_neg c19] at H
          have c19b0 : decide (x14_2 < (l1.length : Int)) = false := decide_eq_false c19
          clear c19
          obtain rfl := Option.some.inj H
          go_wp2
          go_ret
          exact ⟨_, by first | rfl | (simp [errW_none, errW_some] <;> rfl) | (simp [*, errW_none, errW_some] <;> rfl), by (with_reducible repeat (first | apply Kd.R_alloc | apply Kd.R_drewN | apply Kd.R_drew)); exact Kd.R_mono HO_13.out (fun _ hk => trivial), by repeat (first | (with_reducible first | exact HB.out | apply below_alloc | apply pw_below_drewN | apply below_drew1 | refine below_set ?_ GE213.out) | exact HB.out)⟩
      ·rw [if_neg c11] at H
       exact absurd H (by simp)
     ·rw [if_neg c10] at H
      exact absurd H (by simp)
    ·rw [if_neg c9] at H
     exact absurd H (by simp)
end Go.Proofs.Ytmojlpafpeeelaa.P
end
section
namespace Go.Proofs.Ytmojlpafpeeelaa.P
open Go.RowKit Go.Proofs.YtmojlpafpeeelaaW.PrintWords Go.Proofs.YtmojlpafpeeelaaW.PrintLast Go.Proofs.YtmojlpafpeeelaaW.PrintMore
attribute [local go_sem] max2_int min2_int max_two min_two max_three min_three max_four min_four
set_option linter.unusedVariables false
set_option linter.unusedSimpArgs false
def cohousingref28_once.l0 : Nat → List (S44) → List (S39) → Int → Option ((List (S39)))
 | 0, _, _, _ => none
 | k + 1, x0, x1, x5 => if x5 ≥ 0 then ((cohousingref28_below.f k x0 x5).bind fun t244 => (if (t244.length : Int) > 0 then ((cohousingref28_empty.f k x1).bind fun t247 => (if t247 = true then (cohousingref28_once.l0 k x0 x1 (wrap64 (x5 - 1))) else ((cohousingref28_equation.f k x0 x1 x5 t244).bind fun t248 => (cohousingref28_once.l0 k x0 t248 (wrap64 (x5 - 1)))))) else (cohousingref28_once.l0 k x0 x1 (wrap64 (x5 - 1))))) else (some x1)
def cohousingref28_once.f (k : Nat) (l0 : List (S44)) (l1 : List (S39)) : Option ((List (S39))) := cohousingref28_once.l0 k l0 l1 (wrap64 ((l0.length : Int) - 1))
set_option maxHeartbeats 8000000 in
set_option maxRecDepth 100000 in
theorem cohousingref28_once.calls (k : Nat) (A0 : Option Addr) (c0 : Nat) (l0 : List (S44)) (P1_ : Nat → Prop) (A1 : Option Addr) (c1 : Nat) (l1 : List (S39)) (r : List (S39)) (w : World) (hr0 : Kd.C k44 w A0 l0.length l0) (hc0 : l0.length ≤ c0) (hs1 : Kd.V k39 39 w w.heap.size (fun k_ => P1_ k_) (.slice A1 l1.length c1) l1) (h : cohousingref28_once.f k l0 l1 = some r) :
  Calls Try.prog 46 #[.slice A0 l0.length c0, .slice A1 l1.length c1] w fun e w' => ∃ v0_ : Value, e = .returned (v0_) ∧ Kd.V k39 39 w' w.heap.size (fun k_ => (P1_ k_ ∨ w.heap.size ≤ k_)) v0_ r ∧ Below w.heap.size w w' := by
 have HR0 := Aside0.mk hr0
 have HC0 := Aside0.mk hc0
 clear hr0 hc0
 have HO1 := Aside0.mk (show Kd.V k39 39 w w.heap.size (fun k_ => (P1_ k_ ∨ w.heap.size ≤ k_)) (.slice A1 l1.length c1) l1 from Kd.V_mono hs1 (fun k_ hk => .inl hk))
 have HB := Aside0.mk (Below.refl w.heap.size w)
 have H : (cohousingref28_once.l0 k l0 l1 (wrap64 ((l0.length : Int) - 1))) = some r := h
 clear h
 have H' := Aside0.mk H
 clear H
 go_enter Try.func46, Try.ntmps46
 go_wp2
 go_loopg [1, 5] k (fun kq v1 v5 w' => ∃ (x1_1 : List (S39)) (x5_1 : Int), v5 = .int .i64 x5_1 ∧ Aside0 (cohousingref28_once.l0 kq l0 x1_1 x5_1 = some r) ∧ Aside0 (kq ≤ k) ∧ Aside0 (Kd.V k39 39 w' w.heap.size (fun k_ => (P1_ k_ ∨ w.heap.size ≤ k_)) v1 x1_1) ∧ Aside0 (Below w.heap.size w w'))
 case atStart => exact ⟨(l1), (wrap64 ((l0.length : Int) - 1)), (by first | rfl | (simp; done) | (simp [*]; done)), H', ⟨Nat.le_refl _⟩, ⟨by (with_reducible repeat (first | apply Kd.V_alloc | apply Kd.V_drewN | apply Kd.V_drew)); exact HO1.out⟩, ⟨by repeat (first | (with_reducible first | exact HB.out | apply below_alloc | apply pw_below_drewN | apply below_drew1) | exact HB.out)⟩⟩
 case round =>
  clear H'
  try clear c1
  try clear p2
  obtain ⟨x1_1, x5_1, rfl, HA, HK1, HO_1, HB⟩ := hrel
  cases gk with
  | zero => exact absurd HA.out (by simp [cohousingref28_once.l0])
  | succ k1 =>
   have H := HA.out
   clear HA
   simp only [cohousingref28_once.l0] at H
   by_cases c3 : x5_1 ≥ 0
   ·rw [if_pos c3] at H
    have c3b0 : decide (0 ≤ x5_1) = true := decide_eq_true c3
    clear c3
    replace H := Option.bind_eq_some_iff.mp H
    obtain ⟨t244, A40, H⟩ := H
    replace H : (if (t244.length : Int) > 0 then ((cohousingref28_empty.f k1 x1_1).bind fun t247 => (if t247 = true then (cohousingref28_once.l0 k1 l0 x1_1 (wrap64 (x5_1 - 1))) else ((cohousingref28_equation.f k1 l0 x1_1 x5_1 t244).bind fun t248 => (cohousingref28_once.l0 k1 l0 t248 (wrap64 (x5_1 - 1)))))) else (cohousingref28_once.l0 k1 l0 x1_1 (wrap64 (x5_1 - 1)))) = some r := H
    have A4 := Aside0.mk A40
    clear A40
    by_cases c5 : (t244.length : Int) > 0
    ·rw [if_pos c5] at H
     have c5b0 : decide (0 < (t244.length : Int)) = true := decide_eq_true c5
     have c5b1 : decide (0 < t244.length) = true := decide_eq_true (by omega)
     clear c5
     replace H := Option.bind_eq_some_iff.mp H
     obtain ⟨t247, A60, H⟩ := H
     replace H : (if t247 = true then (cohousingref28_once.l0 k1 l0 x1_1 (wrap64 (x5_1 - 1))) else ((cohousingref28_equation.f k1 l0 x1_1 x5_1 t244).bind fun t248 => (cohousingref28_once.l0 k1 l0 t248 (wrap64 (x5_1 - 1))))) = some r := H
     have A6 := Aside0.mk A60
     clear A60
     by_cases c7 : t247 = true
     ·subst c7
      have H1 : (cohousingref28_once.l0 k1 l0 x1_1 (wrap64 (x5_1 - 1))) = some r := by rw [if_pos rfl] at H; exact H
      clear H
      have H := H1
      clear H1
      have H' := Aside0.mk H
      clear H
      go_wp2_with (first | ((with_reducible refine gate_callee (f := 36) rfl ?_); refine goesL_ (some 16) rfl rfl Try.func36 (by kernel_rfl) rfl #[.slice A0 l0.length c0, .int .i64 x5_1] rfl (by (try simp only [List.map_toArray, List.map_cons, List.map_nil]); first | done | rfl | (simp only [List.length_drop, List.length_take]; rfl)) ?_; (with_reducible refine (cohousingref28_below.calls k1 _ _ l0 x5_1 t244 _ ?side1 ?side2 A4.out).mono ?_); (case side1 => repeat (first | exact (Kd.C_below HR0.out HB.out) | (with_reducible refine Kd.C_alloc ?_ _) | (with_reducible refine Kd.C_drewN ?_ _) | (with_reducible refine Kd.C_drew ?_))); (case side2 => exact HC0.out); rintro e w8 ⟨v245, rfl, ho0, hb⟩; refine ⟨_, rfl, ?_⟩; have n0_ := Aside0.mk (Kd.V_elder' (by (with_reducible repeat (first | apply Kd.V_alloc | apply Kd.V_drewN | apply Kd.V_drew)); exact HO_1.out) (Kd.R_base ho0) hb); have n1_ := Aside0.mk (Kd.R_lower (Kd.R_newM (M := fun k_ => (w.heap.size ≤ k_)) ho0 (below_size (by repeat (first | (with_reducible first | exact HB.out | apply below_alloc | apply pw_below_drewN | apply below_drew1) | exact HB.out))) (fun k_ h_ => h_)) (below_size (by repeat (first | (with_reducible first | exact HB.out | apply below_alloc | apply pw_below_drewN | apply below_drew1) | exact HB.out)))); have n2_ := Aside0.mk (below_step (by repeat (first | (with_reducible first | exact HB.out | apply below_alloc | apply pw_below_drewN | apply below_drew1) | exact HB.out)) hb); clear HO_1; clear HB; have HO_1 := n0_; have HO246 := n1_; have HB := n2_; clear n0_ n1_ n2_; (try clear hb); (try clear hb2); (try clear hk); (try clear hi); (try clear ho0); obtain ⟨Ao9, co9, eo9⟩ := Kd.R_slice HO246.out; subst eo9; obtain ⟨Ao10, co10, eo10⟩ := Kd.V_slice HO_1.out; subst eo10) | (go_at_call 47; (with_reducible refine (cohousingref28_empty.calls k1 _ _ x1_1 true _ ?side1 ?side2 A6.out).mono ?_); (case side1 => repeat (first | exact (Kd.V_reads' HO_1.out).2.2 | (with_reducible refine Kd.C_alloc ?_ _) | (with_reducible refine Kd.C_drewN ?_ _) | (with_reducible refine Kd.C_drew ?_))); (case side2 => exact (Kd.V_reads' HO_1.out).2.1); rintro e w' ⟨rfl, ⟨nd, rfl⟩⟩))
      go_roundg k1
      case measure => have := HK1.out; omega
      case rel => exact ⟨(x1_1), (wrap64 (x5_1 - 1)), (by first | rfl | (simp; done) | (simp [*]; done)), H', ⟨by have := HK1.out; omega⟩, ⟨by (with_reducible repeat (first | apply Kd.V_alloc | apply Kd.V_drewN | apply Kd.V_drew)); exact Kd.V_mono HO_1.out (fun _ hk => hk.1)⟩, ⟨by repeat (first | (with_reducible first | exact HB.out | apply below_alloc | apply pw_below_drewN | apply below_drew1) | exact HB.out)⟩⟩
     ·replace c7 := Bool.eq_false_iff.mpr c7
      subst c7
      have H1 : ((cohousingref28_equation.f k1 l0 x1_1 x5_1 t244).bind fun t248 => (cohousingref28_once.l0 k1 l0 t248 (wrap64 (x5_1 - 1)))) = some r := by rw [if_neg (show ¬ (false = true) by decide)] at H; exact H
      clear H
      have H := H1
      clear H1
      replace H := Option.bind_eq_some_iff.mp H
      obtain ⟨t248, A110, H⟩ := H
      replace H : (cohousingref28_once.l0 k1 l0 t248 (wrap64 (x5_1 - 1))) = some r := H
      have A11 := Aside0.mk A110
      clear A110
      have H' := Aside0.mk H
      clear H
      go_wp2_with (first | ((with_reducible refine gate_callee (f := 36) rfl ?_); refine goesL_ (some 16) rfl rfl Try.func36 (by kernel_rfl) rfl #[.slice A0 l0.length c0, .int .i64 x5_1] rfl (by (try simp only [List.map_toArray, List.map_cons, List.map_nil]); first | done | rfl | (simp only [List.length_drop, List.length_take]; rfl)) ?_; (with_reducible refine (cohousingref28_below.calls k1 _ _ l0 x5_1 t244 _ ?side1 ?side2 A4.out).mono ?_); (case side1 => repeat (first | exact (Kd.C_below HR0.out HB.out) | (with_reducible refine Kd.C_alloc ?_ _) | (with_reducible refine Kd.C_drewN ?_ _) | (with_reducible refine Kd.C_drew ?_))); (case side2 => exact HC0.out); rintro e w12 ⟨v245, rfl, ho0, hb⟩; refine ⟨_, rfl, ?_⟩; have n0_ := Aside0.mk (Kd.V_elder' (by (with_reducible repeat (first | apply Kd.V_alloc | apply Kd.V_drewN | apply Kd.V_drew)); exact HO_1.out) (Kd.R_base ho0) hb); have n1_ := Aside0.mk (Kd.R_lower (Kd.R_newM (M := fun k_ => (w.heap.size ≤ k_)) ho0 (below_size (by repeat (first | (with_reducible first | exact HB.out | apply below_alloc | apply pw_below_drewN | apply below_drew1) | exact HB.out))) (fun k_ h_ => h_)) (below_size (by repeat (first | (with_reducible first | exact HB.out | apply below_alloc | apply pw_below_drewN | apply below_drew1) | exact HB.out)))); have n2_ := Aside0.mk (below_step (by repeat (first | (with_reducible first | exact HB.out | apply below_alloc | apply pw_below_drewN | apply below_drew1) | exact HB.out)) hb); clear HO_1; clear HB; have HO_1 := n0_; have HO246 := n1_; have HB := n2_; clear n0_ n1_ n2_; (try clear hb); (try clear hb2); (try clear hk); (try clear hi); (try clear ho0); obtain ⟨Ao13, co13, eo13⟩ := Kd.R_slice HO246.out; subst eo13; obtain ⟨Ao14, co14, eo14⟩ := Kd.V_slice HO_1.out; subst eo14) | (go_at_call 47; (with_reducible refine (cohousingref28_empty.calls k1 _ _ x1_1 false _ ?side1 ?side2 A6.out).mono ?_); (case side1 => repeat (first | exact (Kd.V_reads' HO_1.out).2.2 | (with_reducible refine Kd.C_alloc ?_ _) | (with_reducible refine Kd.C_drewN ?_ _) | (with_reducible refine Kd.C_drew ?_))); (case side2 => exact (Kd.V_reads' HO_1.out).2.1); rintro e w' ⟨rfl, ⟨nd, rfl⟩⟩) | ((with_reducible refine gate_callee (f := 52) rfl ?_); refine goesL_ (some 29) rfl rfl Try.func52 (by kernel_rfl) rfl #[.slice A0 l0.length c0, .slice Ao14 x1_1.length co14, .int .i64 x5_1, .slice Ao13 t244.length co13] rfl (by (try simp only [List.map_toArray, List.map_cons, List.map_nil]); first | done | rfl | (simp only [List.length_drop, List.length_take]; rfl)) ?_; (with_reducible refine (cohousingref28_equation.calls k1 _ _ l0 _ _ x1_1 x5_1 _ _ t244 t248 _ ?side1 ?side2 ?side3 ?side4 ?side5 ?side6 A11.out).mono ?_); (case side1 => repeat (first | exact (Kd.C_below HR0.out (by repeat (first | (with_reducible first | exact HB.out | apply below_alloc | apply pw_below_drewN | apply below_drew1) | exact HB.out))) | (with_reducible refine Kd.C_alloc ?_ _) | (with_reducible refine Kd.C_drewN ?_ _) | (with_reducible refine Kd.C_drew ?_))); (case side2 => exact HC0.out); (case side3 => repeat (first | exact (Kd.V_reads' HO_1.out).2.2 | (with_reducible refine Kd.C_alloc ?_ _) | (with_reducible refine Kd.C_drewN ?_ _) | (with_reducible refine Kd.C_drew ?_))); (case side4 => exact (Kd.V_reads' HO_1.out).2.1); (case side5 => repeat (first | exact (Kd.R_reads' HO246.out).2.2 | (with_reducible refine Kd.C_alloc ?_ _) | (with_reducible refine Kd.C_drewN ?_ _) | (with_reducible refine Kd.C_drew ?_))); (case side6 => exact (Kd.R_reads' HO246.out).2.1); rintro e w15 ⟨v249, rfl, ho0, hb⟩; refine ⟨_, rfl, ?_⟩; have n0_ := Aside0.mk (Kd.V_elder' (by (with_reducible repeat (first | apply Kd.V_alloc | apply Kd.V_drewN | apply Kd.V_drew)); exact HO_1.out) (Kd.R_base ho0) hb); have n1_ := Aside0.mk (Kd.R_below (by (with_reducible repeat (first | apply Kd.R_alloc | apply Kd.R_drewN | apply Kd.R_drew)); exact HO246.out) hb); have n2_ := Aside0.mk (Kd.R_lower (Kd.R_newM (M := fun k_ => (w.heap.size ≤ k_)) ho0 (below_size (by repeat (first | (with_reducible first | exact HB.out | apply below_alloc | apply pw_below_drewN | apply below_drew1) | exact HB.out))) (fun k_ h_ => h_)) (below_size (by repeat (first | (with_reducible first | exact HB.out | apply below_alloc | apply pw_below_drewN | apply below_drew1) | exact HB.out)))); have n3_ := Aside0.mk (below_step (by repeat (first | (with_reducible first | exact HB.out | apply below_alloc | apply pw_below_drewN | apply below_drew1) | exact HB.out)) hb); clear HO_1; clear HO246; clear HB; have HO_1 := n0_; have HO246 := n1_; have HO250 := n2_; have HB := n3_; clear n0_ n1_ n2_ n3_; (try clear hb); (try clear hb2); (try clear hk); (try clear hi); (try clear ho0)))
      go_roundg k1
      case measure => have := HK1.out; omega
      case rel => exact ⟨(t248), (wrap64 (x5_1 - 1)), (by first | rfl | (simp; done) | (simp [*]; done)), H', ⟨by have := HK1.out; omega⟩, ⟨Kd.V_mono (Kd.R_V (by (with_reducible repeat (first | apply Kd.R_alloc | apply Kd.R_drewN | apply Kd.R_drew)); exact Kd.R_mono HO250.out (fun _ hk => hk.1))) (fun k_ hk => by first | exact ⟨(.inr (hk.1)), hk.2⟩ | exact (.inr (hk)))⟩, ⟨by repeat (first | (with_reducible first | exact HB.out | apply below_alloc | apply pw_below_drewN | apply below_drew1) | exact HB.out)⟩⟩
    ·rw [if_neg c5] at H
     have c5b0 : decide (0 < (t244.length : Int)) = false := decide_eq_false c5
     have c5b1 : decide (0 < t244.length) = false := decide_eq_false (by omega)
     clear c5
     have H' := Aside0.mk H
     clear H
     go_wp2_with (first | ((with_reducible refine gate_callee (f := 36) rfl ?_); refine goesL_ (some 16) rfl rfl Try.func36 (by kernel_rfl) rfl #[.slice A0 l0.length c0, .int .i64 x5_1] rfl (by (try simp only [List.map_toArray, List.map_cons, List.map_nil]); first | done | rfl | (simp only [List.length_drop, List.length_take]; rfl)) ?_; (with_reducible refine (cohousingref28_below.calls k1 _ _ l0 x5_1 t244 _ ?side1 ?side2 A4.out).mono ?_); (case side1 => repeat (first | exact (Kd.C_below HR0.out HB.out) | (with_reducible refine Kd.C_alloc ?_ _) | (with_reducible refine Kd.C_drewN ?_ _) | (with_reducible refine Kd.C_drew ?_))); (case side2 => exact HC0.out); rintro e w16 ⟨v245, rfl, ho0, hb⟩; refine ⟨_, rfl, ?_⟩; have n0_ := Aside0.mk (Kd.V_elder' (by (with_reducible repeat (first | apply Kd.V_alloc | apply Kd.V_drewN | apply Kd.V_drew)); exact HO_1.out) (Kd.R_base ho0) hb); have n1_ := Aside0.mk (Kd.R_lower (Kd.R_newM (M := fun k_ => (w.heap.size ≤ k_)) ho0 (below_size (by repeat (first | (with_reducible first | exact HB.out | apply below_alloc | apply pw_below_drewN | apply below_drew1) | exact HB.out))) (fun k_ h_ => h_)) (below_size (by repeat (first | (with_reducible first | exact HB.out | apply below_alloc | apply pw_below_drewN | apply below_drew1) | exact HB.out)))); have n2_ := Aside0.mk (below_step (by repeat (first | (with_reducible first | exact HB.out | apply below_alloc | apply pw_below_drewN | apply below_drew1) | exact HB.out)) hb); clear HO_1; clear HB; have HO_1 := n0_; have HO246 := n1_; have HB := n2_; clear n0_ n1_ n2_; (try clear hb); (try clear hb2); (try clear hk); (try clear hi); (try clear ho0); obtain ⟨Ao17, co17, eo17⟩ := Kd.R_slice HO246.out; subst eo17))
     go_roundg k1
     case measure => have := HK1.out; omega
     case rel => exact ⟨(x1_1), (wrap64 (x5_1 - 1)), (by first | rfl | (simp; done) | (simp [*]; done)), H', ⟨by have := HK1.out; omega⟩, ⟨by (with_reducible repeat (first | apply Kd.V_alloc | apply Kd.V_drewN | apply Kd.V_drew)); exact Kd.V_mono HO_1.out (fun _ hk => hk.1)⟩, ⟨by repeat (first | (with_reducible first | exact HB.out | apply below_alloc | apply pw_below_drewN | apply below_drew1) | exact HB.out)⟩⟩
   ·rw [if_neg c3] at H
    have c3b0 : decide (0 ≤ x5_1) = false := decide_eq_false c3
    clear c3
    obtain rfl := Option.some.inj H
    go_wp2
    go_ret
    exact ⟨_, by first | rfl | (simp [errW_none, errW_some] <;> rfl) | (simp [*, errW_none, errW_some] <;> rfl), by (with_reducible repeat (first | apply Kd.V_alloc | apply Kd.V_drewN | apply Kd.V_drew)); exact HO_1.out, by repeat (first | (with_reducible first | exact HB.out | apply below_alloc | apply pw_below_drewN | apply below_drew1) | exact HB.out)⟩
end Go.Proofs.Ytmojlpafpeeelaa.P
end
section
namespace Go.Proofs.Ytmojlpafpeeelaa.P
open Go.RowKit Go.Proofs.YtmojlpafpeeelaaW.PrintWords Go.Proofs.YtmojlpafpeeelaaW.PrintLast Go.Proofs.YtmojlpafpeeelaaW.PrintMore
attribute [local go_sem] max2_int min2_int max_two min_two max_three min_three max_four min_four
set_option linter.unusedVariables false
set_option linter.unusedSimpArgs false
def cohousingref28_bounds.l0 : Nat → List (S44) → List (S39) → Option ((List (S39)) × Bool)
 | 0, _, _ => none
 | k + 1, x0, x1 => (cohousingref28_once.f k x0 x1).bind fun t251 => ((cohousingref28_empty.f k t251).bind fun t254 => (if t254 = true then (some (([] : List (S39)), false)) else ((cohousingref28_Same.f k t251 x1).bind fun t255 => (if t255 = true then (some (t251, true)) else (cohousingref28_bounds.l0 k x0 t251)))))
def cohousingref28_bounds.f (k : Nat) (l0 : List (S44)) (l1 : List (S39)) : Option ((List (S39)) × Bool) := cohousingref28_bounds.l0 k l0 l1
set_option maxHeartbeats 8000000 in
set_option maxRecDepth 100000 in
theorem cohousingref28_bounds.calls (k : Nat) (A0 : Option Addr) (c0 : Nat) (l0 : List (S44)) (P1_ : Nat → Prop) (A1 : Option Addr) (c1 : Nat) (l1 : List (S39)) (r1 : List (S39)) (r2 : Bool) (w : World) (hr0 : Kd.C k44 w A0 l0.length l0) (hc0 : l0.length ≤ c0) (hs1 : Kd.V k39 39 w w.heap.size (fun k_ => P1_ k_) (.slice A1 l1.length c1) l1) (h : cohousingref28_bounds.f k l0 l1 = some (r1, r2)) :
  Calls Try.prog 30 #[.slice A0 l0.length c0, .slice A1 l1.length c1] w fun e w' => ∃ v0_ : Value, e = .returned (.tuple #[v0_, .bool r2]) ∧ Kd.V k39 39 w' w.heap.size (fun k_ => (P1_ k_ ∨ w.heap.size ≤ k_)) v0_ r1 ∧ Below w.heap.size w w' := by
 have HR0 := Aside0.mk hr0
 have HC0 := Aside0.mk hc0
 clear hr0 hc0
 have HO1 := Aside0.mk (show Kd.V k39 39 w w.heap.size (fun k_ => (P1_ k_ ∨ w.heap.size ≤ k_)) (.slice A1 l1.length c1) l1 from Kd.V_mono hs1 (fun k_ hk => .inl hk))
 have HB := Aside0.mk (Below.refl w.heap.size w)
 have H : (cohousingref28_bounds.l0 k l0 l1) = some (r1, r2) := h
 clear h
 have H' := Aside0.mk H
 clear H
 go_enter Try.func30, Try.ntmps30
 go_wp2
 go_loopg [1] k (fun kq v1 w' => ∃ (x1_1 : List (S39)), Aside0 (cohousingref28_bounds.l0 kq l0 x1_1 = some (r1, r2)) ∧ Aside0 (kq ≤ k) ∧ Aside0 (Kd.V k39 39 w' w.heap.size (fun k_ => (P1_ k_ ∨ w.heap.size ≤ k_)) v1 x1_1) ∧ Aside0 (Below w.heap.size w w'))
 case atStart => exact ⟨(l1), H', ⟨Nat.le_refl _⟩, ⟨by (with_reducible repeat (first | apply Kd.V_alloc | apply Kd.V_drewN | apply Kd.V_drew)); exact HO1.out⟩, ⟨by repeat (first | (with_reducible first | exact HB.out | apply below_alloc | apply pw_below_drewN | apply below_drew1) | exact HB.out)⟩⟩
 case round =>
  clear H'
  try clear c1
  try clear p2
  obtain ⟨x1_1, HA, HK1, HO_1, HB⟩ := hrel
  cases gk with
  | zero => exact absurd HA.out (by simp [cohousingref28_bounds.l0])
  | succ k1 =>
   have H := HA.out
   clear HA
   simp only [cohousingref28_bounds.l0] at H
   replace H := Option.bind_eq_some_iff.mp H
   obtain ⟨t251, A30, H⟩ := H
   replace H : ((cohousingref28_empty.f k1 t251).bind fun t254 => (if t254 = true then (some (([] : List (S39)), false)) else ((cohousingref28_Same.f k1 t251 x1_1).bind fun t255 => (if t255 = true then (some (t251, true)) else (cohousingref28_bounds.l0 k1 l0 t251))))) = some (r1, r2) := H
   have A3 := Aside0.mk A30
   clear A30
   replace H := Option.bind_eq_some_iff.mp H
   obtain ⟨t254, A40, H⟩ := H
   replace H : (if t254 = true then (some (([] : List (S39)), false)) else ((cohousingref28_Same.f k1 t251 x1_1).bind fun t255 => (if t255 = true then (some (t251, true)) else (cohousingref28_bounds.l0 k1 l0 t251)))) = some (r1, r2) := H
   have A4 := Aside0.mk A40
   clear A40
   by_cases c5 : t254 = true
   ·subst c5
    have H1 : (some (([] : List (S39)), false)) = some (r1, r2) := by rw [if_pos rfl] at H; exact H
    clear H
    have H := H1
    clear H1
    simp only [Option.some.injEq, Prod.mk.injEq] at H
    obtain ⟨rfl, rfl⟩ := H
    obtain ⟨Ao6, co6, eo6⟩ := Kd.V_slice HO_1.out
    subst eo6
    go_wp2_with (first | ((with_reducible refine gate_callee (f := 46) rfl ?_); refine goesL_ (some 10) rfl rfl Try.func46 (by kernel_rfl) rfl #[.slice A0 l0.length c0, .slice Ao6 x1_1.length co6] rfl (by (try simp only [List.map_toArray, List.map_cons, List.map_nil]); first | done | rfl | (simp only [List.length_drop, List.length_take]; rfl)) ?_; (with_reducible refine (cohousingref28_once.calls k1 _ _ l0 (fun k_ => (P1_ k_ ∨ w.heap.size ≤ k_)) _ _ x1_1 t251 _ ?side1 ?side2 ?side3 A3.out).mono ?_); (case side1 => repeat (first | exact (Kd.C_below HR0.out HB.out) | (with_reducible refine Kd.C_alloc ?_ _) | (with_reducible refine Kd.C_drewN ?_ _) | (with_reducible refine Kd.C_drew ?_))); (case side2 => exact HC0.out); (case side3 => exact HO_1.out); rintro e w7 ⟨v252, rfl, ho0, hb⟩; refine ⟨_, rfl, ?_⟩; have n0_ := Aside0.mk (Kd.V_below (by (with_reducible repeat (first | apply Kd.V_alloc | apply Kd.V_drewN | apply Kd.V_drew)); exact HO_1.out) hb); have n1_ := Aside0.mk (Kd.V_lower (Kd.V_mono (ok' := fun k_ => (P1_ k_ ∨ w.heap.size ≤ k_)) ho0 (fun k_ hk_ => Or.elim hk_ (fun hs_ => hs_) (fun hn_ => (.inr (Nat.le_trans (below_size (by repeat (first | (with_reducible first | exact HB.out | apply below_alloc | apply pw_below_drewN | apply below_drew1) | exact HB.out))) hn_))))) (below_size (by repeat (first | (with_reducible first | exact HB.out | apply below_alloc | apply pw_below_drewN | apply below_drew1) | exact HB.out)))); have n2_ := Aside0.mk (below_step (by repeat (first | (with_reducible first | exact HB.out | apply below_alloc | apply pw_below_drewN | apply below_drew1) | exact HB.out)) hb); clear HO_1; clear HB; have HO_1 := n0_; have HO253 := n1_; have HB := n2_; clear n0_ n1_ n2_; (try clear hb); (try clear hb2); (try clear hk); (try clear hi); (try clear ho0); obtain ⟨Ao8, co8, eo8⟩ := Kd.V_slice HO253.out; subst eo8) | ((with_reducible refine gate_callee (f := 47) rfl ?_); refine goesL_ (some 12) rfl rfl Try.func47 (by kernel_rfl) rfl #[.slice Ao8 t251.length co8] rfl (by (try simp only [List.map_toArray, List.map_cons, List.map_nil]); first | done | rfl | (simp only [List.length_drop, List.length_take]; rfl)) ?_; (with_reducible refine (cohousingref28_empty.calls k1 _ _ t251 true _ ?side1 ?side2 A4.out).mono ?_); (case side1 => repeat (first | exact (Kd.V_reads' HO253.out).2.2 | (with_reducible refine Kd.C_alloc ?_ _) | (with_reducible refine Kd.C_drewN ?_ _) | (with_reducible refine Kd.C_drew ?_))); (case side2 => exact (Kd.V_reads' HO253.out).2.1); rintro e w' ⟨rfl, ⟨nd, rfl⟩⟩; refine ⟨_, rfl, ?_⟩))
    go_ret2
    exact ⟨_, by first | rfl | (simp [errW_none, errW_some] <;> rfl) | (simp [*, errW_none, errW_some] <;> rfl), Kd.V_mono (Kd.R_V (by first | exact (Kd.R_nil _ _ _ w.heap.size (fun k_ => w.heap.size ≤ k_)) | exact Kd.R_nil _ _ _ _ _ | exact Kd.N_nil _ _ _ _ _ | exact Kd.V_nil _ _ _ _ _ | exact Kd.Q_nil _ _ _ _ _ | exact Kd.S_nil _ _ _ _ _)) (fun k_ hk => by first | exact ⟨(.inr (hk.1)), hk.2⟩ | exact (.inr (hk))), by repeat (first | (with_reducible first | exact HB.out | apply below_alloc | apply pw_below_drewN | apply below_drew1) | exact HB.out)⟩
   ·replace c5 := Bool.eq_false_iff.mpr c5
    subst c5
    have H1 : ((cohousingref28_Same.f k1 t251 x1_1).bind fun t255 => (if t255 = true then (some (t251, true)) else (cohousingref28_bounds.l0 k1 l0 t251))) = some (r1, r2) := by rw [if_neg (show ¬ (false = true) by decide)] at H; exact H
    clear H
    have H := H1
    clear H1
    replace H := Option.bind_eq_some_iff.mp H
    obtain ⟨t255, A90, H⟩ := H
    replace H : (if t255 = true then (some (t251, true)) else (cohousingref28_bounds.l0 k1 l0 t251)) = some (r1, r2) := H
    have A9 := Aside0.mk A90
    clear A90
    by_cases c10 : t255 = true
    ·subst c10
     have H1 : (some (t251, true)) = some (r1, r2) := by rw [if_pos rfl] at H; exact H
     clear H
     have H := H1
     clear H1
     simp only [Option.some.injEq, Prod.mk.injEq] at H
     obtain ⟨rfl, rfl⟩ := H
     obtain ⟨Ao11, co11, eo11⟩ := Kd.V_slice HO_1.out
     subst eo11
     go_wp2_with (first | ((with_reducible refine gate_callee (f := 46) rfl ?_); refine goesL_ (some 10) rfl rfl Try.func46 (by kernel_rfl) rfl #[.slice A0 l0.length c0, .slice Ao11 x1_1.length co11] rfl (by (try simp only [List.map_toArray, List.map_cons, List.map_nil]); first | done | rfl | (simp only [List.length_drop, List.length_take]; rfl)) ?_; (with_reducible refine (cohousingref28_once.calls k1 _ _ l0 (fun k_ => (P1_ k_ ∨ w.heap.size ≤ k_)) _ _ x1_1 t251 _ ?side1 ?side2 ?side3 A3.out).mono ?_); (case side1 => repeat (first | exact (Kd.C_below HR0.out HB.out) | (with_reducible refine Kd.C_alloc ?_ _) | (with_reducible refine Kd.C_drewN ?_ _) | (with_reducible refine Kd.C_drew ?_))); (case side2 => exact HC0.out); (case side3 => exact HO_1.out); rintro e w12 ⟨v252, rfl, ho0, hb⟩; refine ⟨_, rfl, ?_⟩; have n0_ := Aside0.mk (Kd.V_below (by (with_reducible repeat (first | apply Kd.V_alloc | apply Kd.V_drewN | apply Kd.V_drew)); exact HO_1.out) hb); have n1_ := Aside0.mk (Kd.V_lower (Kd.V_mono (ok' := fun k_ => (P1_ k_ ∨ w.heap.size ≤ k_)) ho0 (fun k_ hk_ => Or.elim hk_ (fun hs_ => hs_) (fun hn_ => (.inr (Nat.le_trans (below_size (by repeat (first | (with_reducible first | exact HB.out | apply below_alloc | apply pw_below_drewN | apply below_drew1) | exact HB.out))) hn_))))) (below_size (by repeat (first | (with_reducible first | exact HB.out | apply below_alloc | apply pw_below_drewN | apply below_drew1) | exact HB.out)))); have n2_ := Aside0.mk (below_step (by repeat (first | (with_reducible first | exact HB.out | apply below_alloc | apply pw_below_drewN | apply below_drew1) | exact HB.out)) hb); clear HO_1; clear HB; have HO_1 := n0_; have HO253 := n1_; have HB := n2_; clear n0_ n1_ n2_; (try clear hb); (try clear hb2); (try clear hk); (try clear hi); (try clear ho0); obtain ⟨Ao13, co13, eo13⟩ := Kd.V_slice HO253.out; subst eo13) | ((with_reducible refine gate_callee (f := 47) rfl ?_); refine goesL_ (some 12) rfl rfl Try.func47 (by kernel_rfl) rfl #[.slice Ao13 t251.length co13] rfl (by (try simp only [List.map_toArray, List.map_cons, List.map_nil]); first | done | rfl | (simp only [List.length_drop, List.length_take]; rfl)) ?_; (with_reducible refine (cohousingref28_empty.calls k1 _ _ t251 false _ ?side1 ?side2 A4.out).mono ?_); (case side1 => repeat (first | exact (Kd.V_reads' HO253.out).2.2 | (with_reducible refine Kd.C_alloc ?_ _) | (with_reducible refine Kd.C_drewN ?_ _) | (with_reducible refine Kd.C_drew ?_))); (case side2 => exact (Kd.V_reads' HO253.out).2.1); rintro e w' ⟨rfl, ⟨nd, rfl⟩⟩; refine ⟨_, rfl, ?_⟩) | ((with_reducible refine gate_callee (f := 15) rfl ?_); refine goesL_ (some 15) rfl rfl Try.func15 (by kernel_rfl) rfl #[.slice Ao13 t251.length co13, .slice Ao11 x1_1.length co11] rfl (by (try simp only [List.map_toArray, List.map_cons, List.map_nil]); first | done | rfl | (simp only [List.length_drop, List.length_take]; rfl)) ?_; (with_reducible refine (cohousingref28_Same.calls k1 _ _ t251 _ _ x1_1 true _ ?side1 ?side2 ?side3 ?side4 A9.out).mono ?_); (case side1 => repeat (first | exact (Kd.V_reads' HO253.out).2.2 | (with_reducible refine Kd.C_alloc ?_ _) | (with_reducible refine Kd.C_drewN ?_ _) | (with_reducible refine Kd.C_drew ?_))); (case side2 => exact (Kd.V_reads' HO253.out).2.1); (case side3 => repeat (first | exact (Kd.V_reads' HO_1.out).2.2 | (with_reducible refine Kd.C_alloc ?_ _) | (with_reducible refine Kd.C_drewN ?_ _) | (with_reducible refine Kd.C_drew ?_))); (case side4 => exact (Kd.V_reads' HO_1.out).2.1); rintro e w' ⟨rfl, ⟨nd, rfl⟩⟩; refine ⟨_, rfl, ?_⟩))
     go_ret2
     exact ⟨_, by first | rfl | (simp [errW_none, errW_some] <;> rfl) | (simp [*, errW_none, errW_some] <;> rfl), by (with_reducible repeat (first | apply Kd.V_alloc | apply Kd.V_drewN | apply Kd.V_drew)); exact HO253.out, by repeat (first | (with_reducible first | exact HB.out | apply below_alloc | apply pw_below_drewN | apply below_drew1) | exact HB.out)⟩
    ·replace c10 := Bool.eq_false_iff.mpr c10
     subst c10
     have H1 : (cohousingref28_bounds.l0 k1 l0 t251) = some (r1, r2) := by rw [if_neg (show ¬ (false = true) by decide)] at H; exact H
     clear H
     have H := H1
     clear H1
     have H' := Aside0.mk H
     clear H
     obtain ⟨Ao14, co14, eo14⟩ := Kd.V_slice HO_1.out
     subst eo14
     go_wp2_with (first | ((with_reducible refine gate_callee (f := 46) rfl ?_); refine goesL_ (some 10) rfl rfl Try.func46 (by kernel_rfl) rfl #[.slice A0 l0.length c0, .slice Ao14 x1_1.length co14] rfl (by (try simp only [List.map_toArray, List.map_cons, List.map_nil]); first | done | rfl | (simp only [List.length_drop, List.length_take]; rfl)) ?_; (with_reducible refine (cohousingref28_once.calls k1 _ _ l0 (fun k_ => (P1_ k_ ∨ w.heap.size ≤ k_)) _ _ x1_1 t251 _ ?side1 ?side2 ?side3 A3.out).mono ?_); (case side1 => repeat (first | exact (Kd.C_below HR0.out HB.out) | (with_reducible refine Kd.C_alloc ?_ _) | (with_reducible refine Kd.C_drewN ?_ _) | (with_reducible refine Kd.C_drew ?_))); (case side2 => exact HC0.out); (case side3 => exact HO_1.out); rintro e w15 ⟨v252, rfl, ho0, hb⟩; refine ⟨_, rfl, ?_⟩; have n0_ := Aside0.mk (Kd.V_below (by (with_reducible repeat (first | apply Kd.V_alloc | apply Kd.V_drewN | apply Kd.V_drew)); exact HO_1.out) hb); have n1_ := Aside0.mk (Kd.V_lower (Kd.V_mono (ok' := fun k_ => (P1_ k_ ∨ w.heap.size ≤ k_)) ho0 (fun k_ hk_ => Or.elim hk_ (fun hs_ => hs_) (fun hn_ => (.inr (Nat.le_trans (below_size (by repeat (first | (with_reducible first | exact HB.out | apply below_alloc | apply pw_below_drewN | apply below_drew1) | exact HB.out))) hn_))))) (below_size (by repeat (first | (with_reducible first | exact HB.out | apply below_alloc | apply pw_below_drewN | apply below_drew1) | exact HB.out)))); have n2_ := Aside0.mk (below_step (by repeat (first | (with_reducible first | exact HB.out | apply below_alloc | apply pw_below_drewN | apply below_drew1) | exact HB.out)) hb); clear HO_1; clear HB; have HO_1 := n0_; have HO253 := n1_; have HB := n2_; clear n0_ n1_ n2_; (try clear hb); (try clear hb2); (try clear hk); (try clear hi); (try clear ho0); obtain ⟨Ao16, co16, eo16⟩ := Kd.V_slice HO253.out; subst eo16) | ((with_reducible refine gate_callee (f := 47) rfl ?_); refine goesL_ (some 12) rfl rfl Try.func47 (by kernel_rfl) rfl #[.slice Ao16 t251.length co16] rfl (by (try simp only [List.map_toArray, List.map_cons, List.map_nil]); first | done | rfl | (simp only [List.length_drop, List.length_take]; rfl)) ?_; (with_reducible refine (cohousingref28_empty.calls k1 _ _ t251 false _ ?side1 ?side2 A4.out).mono ?_); (case side1 => repeat (first | exact (Kd.V_reads' HO253.out).2.2 | (with_reducible refine Kd.C_alloc ?_ _) | (with_reducible refine Kd.C_drewN ?_ _) | (with_reducible refine Kd.C_drew ?_))); (case side2 => exact (Kd.V_reads' HO253.out).2.1); rintro e w' ⟨rfl, ⟨nd, rfl⟩⟩; refine ⟨_, rfl, ?_⟩) | ((with_reducible refine gate_callee (f := 15) rfl ?_); refine goesL_ (some 15) rfl rfl Try.func15 (by kernel_rfl) rfl #[.slice Ao16 t251.length co16, .slice Ao14 x1_1.length co14] rfl (by (try simp only [List.map_toArray, List.map_cons, List.map_nil]); first | done | rfl | (simp only [List.length_drop, List.length_take]; rfl)) ?_; (with_reducible refine (cohousingref28_Same.calls k1 _ _ t251 _ _ x1_1 false _ ?side1 ?side2 ?side3 ?side4 A9.out).mono ?_); (case side1 => repeat (first | exact (Kd.V_reads' HO253.out).2.2 | (with_reducible refine Kd.C_alloc ?_ _) | (with_reducible refine Kd.C_drewN ?_ _) | (with_reducible refine Kd.C_drew ?_))); (case side2 => exact (Kd.V_reads' HO253.out).2.1); (case side3 => repeat (first | exact (Kd.V_reads' HO_1.out).2.2 | (with_reducible refine Kd.C_alloc ?_ _) | (with_reducible refine Kd.C_drewN ?_ _) | (with_reducible refine Kd.C_drew ?_))); (case side4 => exact (Kd.V_reads' HO_1.out).2.1); rintro e w' ⟨rfl, ⟨nd, rfl⟩⟩; refine ⟨_, rfl, ?_⟩))
     go_roundg k1
     case measure => have := HK1.out; omega
     case rel => exact ⟨(t251), H', ⟨by have := HK1.out; omega⟩, ⟨by (with_reducible repeat (first | apply Kd.V_alloc | apply Kd.V_drewN | apply Kd.V_drew)); exact HO253.out⟩, ⟨by repeat (first | (with_reducible first | exact HB.out | apply below_alloc | apply pw_below_drewN | apply below_drew1) | exact HB.out)⟩⟩
end Go.Proofs.Ytmojlpafpeeelaa.P
end
section
namespace Go.Proofs.Ytmojlpafpeeelaa.P
open Go.RowKit Go.Proofs.YtmojlpafpeeelaaW.PrintWords Go.Proofs.YtmojlpafpeeelaaW.PrintLast Go.Proofs.YtmojlpafpeeelaaW.PrintMore
attribute [local go_sem] max2_int min2_int max_two min_two max_three min_three max_four min_four
set_option linter.unusedVariables false
set_option linter.unusedSimpArgs false
def cohousingref28_Bounds.j0 : Nat → List (S44) → List (S39) → Bool → Option ((List (S39)) × Int)
 | 0, _, _, _ => none
 | k + 1, x0, x1, x20 => if x20 = true then (some (([] : List (S39)), 1)) else ((cohousingref28_bounds.f k x0 x1).bind fun bt258 => (if bt258.2 = true then ((some (([] : List (S39)) : List (S39))).bind fun y262 => (if y262.length + bt258.1.length < 8796093022208 then (some ((y262 ++ bt258.1), 0)) else (none))) else (some (([] : List (S39)), 30))))
def cohousingref28_Bounds.f (k : Nat) (l0 : List (S44)) (l1 : List (S39)) : Option ((List (S39)) × Int) := (cohousingref28_Valid.f k l0).bind fun t256 => ((cohousingref28_Belongs.f l0 l1).bind fun t257 => (if t256 = true then (cohousingref28_Bounds.j0 k l0 l1 (!t257)) else (cohousingref28_Bounds.j0 k l0 l1 true)))
set_option maxHeartbeats 8000000 in
set_option maxRecDepth 100000 in
theorem cohousingref28_Bounds.calls (k : Nat) (A0 : Option Addr) (c0 : Nat) (l0 : List (S44)) (A1 : Option Addr) (c1 : Nat) (l1 : List (S39)) (r1 : List (S39)) (r2 : Int) (w : World) (hr0 : Kd.C k44 w A0 l0.length l0) (hc0 : l0.length ≤ c0) (hr1 : Kd.C k39 w A1 l1.length l1) (hc1 : l1.length ≤ c1) (h : cohousingref28_Bounds.f k l0 l1 = some (r1, r2)) :
  Calls Try.prog 12 #[.slice A0 l0.length c0, .slice A1 l1.length c1] w fun e w' => ∃ v0_ : Value, e = .returned (.tuple #[v0_, .int .i64 r2]) ∧ Kd.R k39 39 w' w.heap.size (fun _ => True) v0_ r1 ∧ Below w.heap.size w w' := by
 have HR0 := Aside0.mk hr0
 have HC0 := Aside0.mk hc0
 clear hr0 hc0
 have HR1 := Aside0.mk hr1
 have HC1 := Aside0.mk hc1
 clear hr1 hc1
 have HB := Aside0.mk (Below.refl w.heap.size w)
 have H : ((cohousingref28_Valid.f k l0).bind fun t256 => ((cohousingref28_Belongs.f l0 l1).bind fun t257 => (if t256 = true then (cohousingref28_Bounds.j0 k l0 l1 (!t257)) else (cohousingref28_Bounds.j0 k l0 l1 true)))) = some (r1, r2) := h
 clear h
 replace H := Option.bind_eq_some_iff.mp H
 obtain ⟨t256, A30, H⟩ := H
 replace H : ((cohousingref28_Belongs.f l0 l1).bind fun t257 => (if t256 = true then (cohousingref28_Bounds.j0 k l0 l1 (!t257)) else (cohousingref28_Bounds.j0 k l0 l1 true))) = some (r1, r2) := H
 have A3 := Aside0.mk A30
 clear A30
 replace H := Option.bind_eq_some_iff.mp H
 obtain ⟨t257, A40, H⟩ := H
 replace H : (if t256 = true then (cohousingref28_Bounds.j0 k l0 l1 (!t257)) else (cohousingref28_Bounds.j0 k l0 l1 true)) = some (r1, r2) := H
 have A4 := Aside0.mk A40
 clear A40
 have HC5 := Aside0.mk H
 clear H
 go_enter Try.func12, Try.ntmps12
 go_upto_region 3 with (first | ((with_reducible refine gate_callee (f := 14) rfl ?_); refine goesL_ (some 11) rfl rfl Try.func14 (by kernel_rfl) rfl #[.slice A0 l0.length c0] rfl (by (try simp only [List.map_toArray, List.map_cons, List.map_nil]); first | done | rfl | (simp only [List.length_drop, List.length_take]; rfl)) ?_; (with_reducible refine (cohousingref28_Valid.calls k _ _ l0 t256 _ ?side1 ?side2 A3.out).mono ?_); (case side1 => repeat (first | exact HR0.out | (with_reducible refine Kd.C_alloc ?_ _) | (with_reducible refine Kd.C_drewN ?_ _) | (with_reducible refine Kd.C_drew ?_))); (case side2 => exact HC0.out); rintro e w6 ⟨rfl, hb⟩; refine ⟨_, rfl, ?_⟩; have n0_ := Aside0.mk (below_step (by repeat (first | (with_reducible first | exact HB.out | apply below_alloc | apply pw_below_drewN | apply below_drew1) | exact HB.out)) hb); clear HB; have HB := n0_; clear n0_; (try clear hb); (try clear hb2); (try clear hk); (try clear hi)) | ((with_reducible refine gate_callee (f := 29) rfl ?_); refine goesL_ (some 14) rfl rfl Try.func29 (by kernel_rfl) rfl #[.slice A0 l0.length c0, .slice A1 l1.length c1] rfl (by (try simp only [List.map_toArray, List.map_cons, List.map_nil]); first | done | rfl | (simp only [List.length_drop, List.length_take]; rfl)) ?_; (with_reducible refine (cohousingref28_Belongs.calls _ _ l0 _ _ l1 t257 _ ?side1 ?side2 ?side3 ?side4 A4.out).mono ?_); (case side1 => repeat (first | exact (Kd.C_below HR0.out HB.out) | (with_reducible refine Kd.C_alloc ?_ _) | (with_reducible refine Kd.C_drewN ?_ _) | (with_reducible refine Kd.C_drew ?_))); (case side2 => exact HC0.out); (case side3 => repeat (first | exact (Kd.C_below HR1.out HB.out) | (with_reducible refine Kd.C_alloc ?_ _) | (with_reducible refine Kd.C_drewN ?_ _) | (with_reducible refine Kd.C_drew ?_))); (case side4 => exact HC1.out); rintro e w7 ⟨rfl, hb⟩; refine ⟨_, rfl, ?_⟩; have n0_ := Aside0.mk (below_step (by repeat (first | (with_reducible first | exact HB.out | apply below_alloc | apply pw_below_drewN | apply below_drew1) | exact HB.out)) hb); clear HB; have HB := n0_; clear n0_; (try clear hb); (try clear hb2); (try clear hk); (try clear hi)))
 (try simp only [Act.put, sI_, s0_, sS_])
 go_cut [20] (fun v20 wc => ∃ (kq : Nat) (x20_4 : Bool), v20 = .bool x20_4 ∧ Aside0 (cohousingref28_Bounds.j0 kq l0 l1 x20_4 = some (r1, r2)) ∧ Aside0 (kq ≤ k) ∧ Aside0 (Below w.heap.size w wc))
 case first =>
  have H := HC5.out
  clear HC5
  by_cases c8 : t256 = true
  ·subst c8
   have H1 : (cohousingref28_Bounds.j0 k l0 l1 (!t257)) = some (r1, r2) := by rw [if_pos rfl] at H; exact H
   clear H
   have H := H1
   clear H1
   have H' := Aside0.mk H
   clear H
   go_wp2
   go_meet
   case rel => exact ⟨_, (!t257), (by first | rfl | (simp; done) | (simp [*]; done)), H', ⟨by first | omega | exact Nat.le_refl _⟩, ⟨by repeat (first | (with_reducible first | exact HB.out | apply below_alloc | apply pw_below_drewN | apply below_drew1) | exact HB.out)⟩⟩
  ·replace c8 := Bool.eq_false_iff.mpr c8
   subst c8
   have H1 : (cohousingref28_Bounds.j0 k l0 l1 true) = some (r1, r2) := by rw [if_neg (show ¬ (false = true) by decide)] at H; exact H
   clear H
   have H := H1
   clear H1
   have H' := Aside0.mk H
   clear H
   go_wp2
   go_meet
   case rel => exact ⟨_, (true), (by first | rfl | (simp; done) | (simp [*]; done)), H', ⟨by first | omega | exact Nat.le_refl _⟩, ⟨by repeat (first | (with_reducible first | exact HB.out | apply below_alloc | apply pw_below_drewN | apply below_drew1) | exact HB.out)⟩⟩
 case rest =>
  clear HC5
  try clear c1
  try clear c2
  try clear p2
  try clear c8
  obtain ⟨kq, x20_4, rfl, HA, HJ4, HB⟩ := hcut
  cases kq with
  | zero => exact absurd HA.out (by simp [cohousingref28_Bounds.j0])
  | succ kj4 =>
   have H := HA.out
   clear HA
   simp only [cohousingref28_Bounds.j0] at H
   by_cases c9 : x20_4 = true
   ·subst c9
    have H1 : (some (([] : List (S39)), 1)) = some (r1, r2) := by rw [if_pos rfl] at H; exact H
    clear H
    have H := H1
    clear H1
    simp only [Option.some.injEq, Prod.mk.injEq] at H
    obtain ⟨rfl, rfl⟩ := H
    go_wp2
    go_ret2
    exact ⟨_, by first | rfl | (simp [errW_none, errW_some] <;> rfl) | (simp [*, errW_none, errW_some] <;> rfl), by first | exact Kd.R_nil _ _ _ _ _ | exact Kd.N_nil _ _ _ _ _ | exact Kd.V_nil _ _ _ _ _ | exact Kd.Q_nil _ _ _ _ _ | exact Kd.S_nil _ _ _ _ _, by repeat (first | (with_reducible first | exact HB.out | apply below_alloc | apply pw_below_drewN | apply below_drew1) | exact HB.out)⟩
   ·replace c9 := Bool.eq_false_iff.mpr c9
    subst c9
    have H1 : ((cohousingref28_bounds.f kj4 l0 l1).bind fun bt258 => (if bt258.2 = true then ((some (([] : List (S39)) : List (S39))).bind fun y262 => (if y262.length + bt258.1.length < 8796093022208 then (some ((y262 ++ bt258.1), 0)) else (none))) else (some (([] : List (S39)), 30)))) = some (r1, r2) := by rw [if_neg (show ¬ (false = true) by decide)] at H; exact H
    clear H
    have H := H1
    clear H1
    replace H := Option.bind_eq_some_iff.mp H
    obtain ⟨⟨t258, t261⟩, A100, H⟩ := H
    replace H : (if t261 = true then ((some (([] : List (S39)) : List (S39))).bind fun y262 => (if y262.length + t258.length < 8796093022208 then (some ((y262 ++ t258), 0)) else (none))) else (some (([] : List (S39)), 30))) = some (r1, r2) := H
    have A10 := Aside0.mk A100
    clear A100
    by_cases c11 : t261 = true
    ·subst c11
     have H1 : ((some (([] : List (S39)) : List (S39))).bind fun y262 => (if y262.length + t258.length < 8796093022208 then (some ((y262 ++ t258), 0)) else (none))) = some (r1, r2) := by rw [if_pos rfl] at H; exact H
     clear H
     have H := H1
     clear H1
     obtain ⟨y262, hy262⟩ : ∃ y_ : List (S39), y_ = (([] : List (S39))) := ⟨_, rfl⟩
     replace H : (if y262.length + t258.length < 8796093022208 then (some ((y262 ++ t258), 0)) else (none)) = some (r1, r2) := by first | (rw [hy262]; with_reducible exact H) | (have H2_ := (Option.bind_some _ _).symm.trans H; rw [hy262]; with_reducible exact H2_) | (have H2_ := (Option.bind_some _ _).symm.trans H; with_reducible exact H2_) | with_reducible exact H | (rw [hy262]; exact H) | exact H
     have Ny262 := Aside0.mk hy262
     clear hy262
     by_cases c12 : y262.length + t258.length < 8796093022208
     ·rw [if_pos c12] at H
      have LMc12 := Aside0.mk c12
      clear c12
      obtain ⟨y265, hy265⟩ : ∃ y_ : List (S39), y_ = (y262 ++ t258) := ⟨_, rfl⟩
      replace H : (some (y265, 0)) = some (r1, r2) := by first | (rw [hy265]; with_reducible exact H) | (have H2_ := (Option.bind_some _ _).symm.trans H; rw [hy265]; with_reducible exact H2_) | (have H2_ := (Option.bind_some _ _).symm.trans H; with_reducible exact H2_) | with_reducible exact H | (rw [hy265]; exact H) | exact H
      have Ny265 := Aside0.mk hy265
      clear hy265
      simp only [Option.some.injEq, Prod.mk.injEq] at H
      obtain ⟨rfl, rfl⟩ := H
      go_wp2_with (first | ((with_reducible refine gate_callee (f := 30) rfl ?_); refine goesL_ (some 24) rfl rfl Try.func30 (by kernel_rfl) rfl #[.slice A0 l0.length c0, .slice A1 l1.length c1] rfl (by (try simp only [List.map_toArray, List.map_cons, List.map_nil]); first | done | rfl | (simp only [List.length_drop, List.length_take]; rfl)) ?_; (with_reducible refine (cohousingref28_bounds.calls kj4 _ _ l0 (fun k_ => k_ < w.heap.size) _ _ l1 t258 true _ ?side1 ?side2 ?side3 A10.out).mono ?_); (case side1 => repeat (first | exact (Kd.C_below HR0.out HB.out) | (with_reducible refine Kd.C_alloc ?_ _) | (with_reducible refine Kd.C_drewN ?_ _) | (with_reducible refine Kd.C_drew ?_))); (case side2 => exact HC0.out); (case side3 => exact Kd.V_mk HC1.out (Kd.F_below (Kd.C_F k39_heap HR1.out) (by repeat (first | (with_reducible first | exact HB.out | apply below_alloc | apply pw_below_drewN | apply below_drew1) | exact HB.out)))); rintro e w13 ⟨v259, rfl, ho0, hb⟩; refine ⟨_, rfl, ?_⟩; have n0_ := Aside0.mk (Kd.V_lower (Kd.V_mono (ok' := fun k_ => True) ho0 (fun k_ hk_ => trivial)) (below_size (by repeat (first | (with_reducible first | exact HB.out | apply below_alloc | apply pw_below_drewN | apply below_drew1) | exact HB.out)))); have n1_ := Aside0.mk (below_step (by repeat (first | (with_reducible first | exact HB.out | apply below_alloc | apply pw_below_drewN | apply below_drew1) | exact HB.out)) hb); clear HB; have HO260 := n0_; have HB := n1_; clear n0_ n1_; (try clear hb); (try clear hb2); (try clear hk); (try clear hi); (try clear ho0)) | ((with_reducible refine gate_dst (N := 29) rfl ?_); refine Kd.R_lit k39 _ 39 ?hg (N := 29) ?hd (xs := ([] : List (S39))) (inner := []) (ok := fun _ => True) (okp := fun _ => True) ?hr ?hp (fun _ hk => hk) trivial (Below.refl _ _) (Nat.le_refl _) (by simp) ?_; (case hd => rfl); (case hg => rfl); (case hr => first | (go_simp; done) | (go_simp; rfl)); (case hp => exact (Reps.none _ _)); intro v263 w14 ho15 hb hg_ hnew_; clear hg_ hnew_; (first | rw [← Ny262.out] at ho15 | (simp only [Int.reduceToNat] at ho15; rw [← Ny262.out] at ho15)); have n0_ := Aside0.mk (Kd.V_elder' (by (with_reducible repeat (first | apply Kd.V_alloc | apply Kd.V_drewN | apply Kd.V_drew)); exact HO260.out) (Kd.R_base ho15) hb); have n1_ := Aside0.mk (Kd.R_lower ho15 (below_size (by repeat (first | (with_reducible first | exact HB.out | apply below_alloc | apply pw_below_drewN | apply below_drew1) | exact HB.out)))); have n2_ := Aside0.mk (below_step (by repeat (first | (with_reducible first | exact HB.out | apply below_alloc | apply pw_below_drewN | apply below_drew1) | exact HB.out)) hb); clear HO260; clear HB; have HO260 := n0_; have HO264 := n1_; have HB := n2_; clear n0_ n1_ n2_; clear hb ho15; obtain ⟨Ao17, co17, eo17⟩ := Kd.V_slice HO260.out; subst eo17) | ((with_reducible refine gate_builtin (b := .append) (xs := #[.tmp 29, .tmp 30]) rfl ?_); at_builtin; refine Kd.R_append_rows k39 (w0 := w) w.heap.size rfl (.tmp 29) (.tmp 30) 23 39 (.agg #[(.int .i64 0), (.int .i64 0)]) 16 rfl Try.underlying23 info39 rfl (by decide) (by omega) v263 y262 t258 _ _ _ (fun _ => True) (fun _ => False) rfl rfl ?aO ?aR (fun _ _ h => h) (fun _ h => h.elim) ?aF ?aB ?aS ?aL ?_; (case aR => repeat (first | exact (Kd.V_reads' HO260.out).2.2 | (with_reducible refine Kd.C_alloc ?_ _) | (with_reducible refine Kd.C_drewN ?_ _) | (with_reducible refine Kd.C_drew ?_))); (case aB => exact (by repeat (first | (with_reducible first | exact HB.out | apply below_alloc | apply pw_below_drewN | apply below_drew1) | exact HB.out))); (case aF => exact (fun _ _ => trivial)); (case aO => exact (by (with_reducible repeat (first | apply Kd.R_alloc | apply Kd.R_drewN | apply Kd.R_drew)); exact HO264.out)); (case aS => exact (below_size (by repeat (first | (with_reducible first | exact HB.out | apply below_alloc | apply pw_below_drewN | apply below_drew1) | exact HB.out)))); (case aL => have := LMc12.out; omega); intro v266 w16 ho hb hg hat; rw [← Ny265.out] at ho; have n0_ := Aside0.mk (Kd.V_afterv (ok := (fun _ => True)) (by (with_reducible repeat (first | apply Kd.V_alloc | apply Kd.V_drewN | apply Kd.V_drew)); exact HO260.out) hg hat); have n1_ := Aside0.mk (hb); have n2_ := Aside0.mk (ho); clear HO260; clear HB; clear HO264; have HO260 := n0_; have HB := n1_; have HO267 := n2_; clear n0_ n1_ n2_; clear ho hb hg hat))
      go_ret2
      exact ⟨_, by first | rfl | (simp [errW_none, errW_some] <;> rfl) | (simp [*, errW_none, errW_some] <;> rfl), by (with_reducible repeat (first | apply Kd.R_alloc | apply Kd.R_drewN | apply Kd.R_drew)); exact HO267.out, by repeat (first | (with_reducible first | exact HB.out | apply below_alloc | apply pw_below_drewN | apply below_drew1) | exact HB.out)⟩
     ·rw [if_neg c12] at H
      exact absurd H (by simp)
    ·replace c11 := Bool.eq_false_iff.mpr c11
     subst c11
     have H1 : (some (([] : List (S39)), 30)) = some (r1, r2) := by rw [if_neg (show ¬ (false = true) by decide)] at H; exact H
     clear H
     have H := H1
     clear H1
     simp only [Option.some.injEq, Prod.mk.injEq] at H
     obtain ⟨rfl, rfl⟩ := H
     go_wp2_with (first | ((with_reducible refine gate_callee (f := 30) rfl ?_); refine goesL_ (some 24) rfl rfl Try.func30 (by kernel_rfl) rfl #[.slice A0 l0.length c0, .slice A1 l1.length c1] rfl (by (try simp only [List.map_toArray, List.map_cons, List.map_nil]); first | done | rfl | (simp only [List.length_drop, List.length_take]; rfl)) ?_; (with_reducible refine (cohousingref28_bounds.calls kj4 _ _ l0 (fun k_ => k_ < w.heap.size) _ _ l1 t258 false _ ?side1 ?side2 ?side3 A10.out).mono ?_); (case side1 => repeat (first | exact (Kd.C_below HR0.out HB.out) | (with_reducible refine Kd.C_alloc ?_ _) | (with_reducible refine Kd.C_drewN ?_ _) | (with_reducible refine Kd.C_drew ?_))); (case side2 => exact HC0.out); (case side3 => exact Kd.V_mk HC1.out (Kd.F_below (Kd.C_F k39_heap HR1.out) (by repeat (first | (with_reducible first | exact HB.out | apply below_alloc | apply pw_below_drewN | apply below_drew1) | exact HB.out)))); rintro e w18 ⟨v259, rfl, ho0, hb⟩; refine ⟨_, rfl, ?_⟩; have n0_ := Aside0.mk (Kd.V_lower (Kd.V_mono (ok' := fun k_ => True) ho0 (fun k_ hk_ => trivial)) (below_size (by repeat (first | (with_reducible first | exact HB.out | apply below_alloc | apply pw_below_drewN | apply below_drew1) | exact HB.out)))); have n1_ := Aside0.mk (below_step (by repeat (first | (with_reducible first | exact HB.out | apply below_alloc | apply pw_below_drewN | apply below_drew1) | exact HB.out)) hb); clear HB; have HO260 := n0_; have HB := n1_; clear n0_ n1_; (try clear hb); (try clear hb2); (try clear hk); (try clear hi); (try clear ho0)))
     go_ret2
     exact ⟨_, by first | rfl | (simp [errW_none, errW_some] <;> rfl) | (simp [*, errW_none, errW_some] <;> rfl), by first | exact Kd.R_nil _ _ _ _ _ | exact Kd.N_nil _ _ _ _ _ | exact Kd.V_nil _ _ _ _ _ | exact Kd.Q_nil _ _ _ _ _ | exact Kd.S_nil _ _ _ _ _, by repeat (first | (with_reducible first | exact HB.out | apply below_alloc | apply pw_below_drewN | apply below_drew1) | exact HB.out)⟩
end Go.Proofs.Ytmojlpafpeeelaa.P
end
