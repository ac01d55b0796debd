/- Part 10 of the base that the seat's proofs share: words, walks and plain laws. -/
import Derived.ArgAppend
import Derived.Below
import Derived.BigQuiet
import Derived.ChangeOld
import Derived.ChangeSlices
import Derived.Deep.AppendLies
import Derived.Deep.CutBlock
import Derived.Deep.DeepCutAuto
import Derived.Deep.Draws
import Derived.Deep.LoopGhost
import Derived.Deep.OwnRows
import Derived.Deep.QuietTactic
import Derived.Deep.RegionHeld3
import Derived.Deep.Slices
import Derived.KernelRfl
import Derived.Laws.BitsLemmas
import Derived.Laws.BytesArg
import Derived.Laws.IdiomCopy
import Derived.Laws.MakeOwn
import Derived.Laws.OwnMore
import Derived.Laws.Rows
import Derived.Laws.Slices
import Derived.Laws.StructEq
import Derived.Lib.AppendStr
import Derived.Lib.BufferOwn
import Derived.Lib.ConvBytes
import Derived.Lib.SliceRun
import Derived.LoopIn
import Derived.LoopNIn
import Derived.Maps.AppendAt
import Derived.Maps.Own
import Derived.OpenShut
import Derived.OrdersHeld
import Derived.OwnWalk
import Derived.OwnWalkIn
import Derived.ProofKit
import Derived.RangeFuncBound
import Derived.RangeFuncCalls
import Derived.RangeFuncLeaves
import Derived.RangeFuncNested
import Derived.RowKit
import Derived.RowKit3
import Derived.ShutString
import Derived.SizedLaws
import Derived.Tactics
import Derived.TacticsInMore
import Derived.Test.YtocbiggglnpeoaaProg
import Derived.WalkKit
import Derived.WideLaws
import Derived.Test.YtocbiggglnpeoaaCTi
set_option linter.unusedVariables false
set_option linter.unusedSimpArgs false
section
namespace Go.Proofs.Ytocbiggglnpeoaa.P
open Go.RowKit Go.Proofs.YtocbiggglnpeoaaW.PrintWords Go.Proofs.YtocbiggglnpeoaaW.PrintLast Go.Proofs.YtocbiggglnpeoaaW.PrintMore
attribute [local go_sem] max2_int min2_int max_two min_two max_three min_three max_four min_four
set_option linter.unusedVariables false
set_option linter.unusedSimpArgs false
set_option maxHeartbeats 8000000
set_option maxRecDepth 100000
section
mutual
def cohousingref26_shape.l0 : Nat → Int → Int → Bool → List (S51) → Option (Bool)
 | 0, _, _, _, _ => none
 | k + 1, x5, x7, x235000, x235001 => if x7 < x5 then (if 0 ≤ x7 then (if x7 < (x235001.length : Int) then (if 0 ≤ (wrap64 (x7 - 1)) then (if (wrap64 (x7 - 1)) < (x235001.length : Int) then (if ((rd_T51 x235001 x7).f2) = ((rd_T51 x235001 (wrap64 (x7 - 1))).f1) then (cohousingref26_shape.l0 k x5 (wrap64 (x7 + 1)) x235000 x235001) else (some false)) else (none)) else (none)) else (none)) else (none)) else (some true)
def cohousingref26_shape.l1 : Nat → Int → Int → Bool → List (S51) → Option (Bool)
 | 0, _, _, _, _ => none
 | k + 1, x5, x8, x235000, x235001 => if x8 < x5 then (if 0 ≤ x8 then (if x8 < (x235001.length : Int) then (if ((rd_T51 x235001 x8).f1) = 0 then (some false) else (if x5 = 0 then (none) else (if 0 ≤ (Int.tmod (wrap64 (x8 + 1)) x5) then (if (Int.tmod (wrap64 (x8 + 1)) x5) < (x235001.length : Int) then (if ((rd_T51 x235001 x8).f2) = ((rd_T51 x235001 (Int.tmod (wrap64 (x8 + 1)) x5)).f1) then (cohousingref26_shape.l1 k x5 (wrap64 (x8 + 1)) x235000 x235001) else (some false)) else (none)) else (none)))) else (none)) else (none)) else (some true)
end
def cohousingref26_shape.f (k : Nat) (l0_0 : List (S84)) (l0_1 : List (S46)) (a1_0 : Bool) (l1_1 : List (S51)) : Option (Bool) := if (l1_1.length : Int) = 0 then (some false) else (if a1_0 = true then (if 0 < (l1_1.length : Int) then ((cohousingref26_Free.f k l0_0 l0_1 ((rd_T51 l1_1 0).f2)).bind fun t236 => (if t236 = true then (cohousingref26_shape.l0 k (l1_1.length : Int) 1 a1_0 l1_1) else (some false))) else (none)) else (cohousingref26_shape.l1 k (l1_1.length : Int) 0 a1_0 l1_1))
def cohousingref26_shape.T5 : Bool × List (List Nat × List Nat) := (true, [([], []), ([], []), ([1], [1]), ([2], [2]), ([3], [3]), ([4], [4]), ([0, 5], [0, 5]), ([6, 6, 0, 1, 2, 3, 4, 5, 6], [6])])
def cohousingref26_shape.B5 : List Nat := [0, 0, 2, 6, 14, 30, 63, 127]
theorem cohousingref26_shape.tab5 : rtab .any (opsOf Try.f47 5) = cohousingref26_shape.T5 := by kernel_rfl
theorem cohousingref26_shape.bits5 : waitsOk cohousingref26_shape.T5.2 cohousingref26_shape.B5 = true := by kernel_rfl
def cohousingref26_shape.T11 : Bool × List (List Nat × List Nat) := (true, [([], []), ([0], [0]), ([], []), ([1, 2], [1, 2]), ([3], [3]), ([4], [4]), ([], []), ([6], [6]), ([], []), ([8], [8]), ([7, 9], [7, 9]), ([10], [10]), ([11], [11]), ([5, 12], [5, 12])])
def cohousingref26_shape.B11 : List Nat := [0, 1, 0, 7, 15, 31, 0, 64, 0, 256, 960, 1984, 4032, 8191]
theorem cohousingref26_shape.tab11 : rtab .any (opsOf Try.f47 11) = cohousingref26_shape.T11 := by kernel_rfl
theorem cohousingref26_shape.bits11 : waitsOk cohousingref26_shape.T11.2 cohousingref26_shape.B11 = true := by kernel_rfl
def cohousingref26_shape.T17 : Bool × List (List Nat × List Nat) := (true, [([], []), ([0], [0]), ([], []), ([1, 2], [1, 2]), ([3], [3]), ([4], [4]), ([5], [5]), ([6], [6]), ([7], [7]), ([8, 7], [7, 8]), ([7], [7]), ([9, 10, 7], [7, 9, 10]), ([11, 7], [7, 11]), ([12, 7], [7, 12]), ([7], [7]), ([14, 7], [7, 14]), ([7], [7]), ([16, 7], [7, 16]), ([7], [7]), ([17, 18, 7], [7, 17, 18]), ([15, 19, 7], [7, 15, 19]), ([20, 7], [7, 20]), ([21, 7], [7, 21]), ([13, 22, 7], [7, 13, 22]), ([7, 23], [7, 23])])
def cohousingref26_shape.B17 : List Nat := [0, 1, 0, 7, 15, 31, 63, 127, 255, 511, 255, 2047, 4095, 8191, 255, 16639, 255, 65791, 255, 459007, 1032447, 2081023, 4178175, 8388607, 16777215]
theorem cohousingref26_shape.tab17 : rtab .any (opsOf Try.f47 17) = cohousingref26_shape.T17 := by kernel_rfl
theorem cohousingref26_shape.bits17 : waitsOk cohousingref26_shape.T17.2 cohousingref26_shape.B17 = true := by kernel_rfl
theorem cohousingref26_shape.calls (k : Nat) (A0_0 : Option Addr) (c0_0 : Nat) (l0_0 : List (S84)) (A0_1 : Option Addr) (c0_1 : Nat) (l0_1 : List (S46)) (a1_0 : Bool) (A1_1 : Option Addr) (c1_1 : Nat) (l1_1 : List (S51)) (r : Bool) (w : World) (hr0_0 : Kd.C k84 w A0_0 l0_0.length l0_0) (hc0_0 : l0_0.length ≤ c0_0) (hr0_1 : Kd.C k46 w A0_1 l0_1.length l0_1) (hc0_1 : l0_1.length ≤ c0_1) (hr1_1 : Kd.C k51 w A1_1 l1_1.length l1_1) (hc1_1 : l1_1.length ≤ c1_1) (h : cohousingref26_shape.f k l0_0 l0_1 a1_0 l1_1 = some r) :
  Calls Try.prog 47 #[.agg #[.slice A0_0 l0_0.length c0_0, .slice A0_1 l0_1.length c0_1], .agg #[.bool a1_0, .slice A1_1 l1_1.length c1_1]] w fun e w' => e = .returned (.bool r) ∧ Below w.heap.size w w' := by
 have hu25 := Try.underlying25
 have hu49 := Try.underlying49
 have HR0_0 := Aside0.mk hr0_0
 have HC0_0 := Aside0.mk hc0_0
 clear hr0_0 hc0_0
 have HR0_1 := Aside0.mk hr0_1
 have HC0_1 := Aside0.mk hc0_1
 clear hr0_1 hc0_1
 have HR1_1 := Aside0.mk hr1_1
 have HC1_1 := Aside0.mk hc1_1
 clear hr1_1 hc1_1
 have HB := Aside0.mk (Below.refl w.heap.size w)
 have H : (if (l1_1.length : Int) = 0 then (some false) else (if a1_0 = true then (if 0 < (l1_1.length : Int) then ((cohousingref26_Free.f k l0_0 l0_1 ((rd_T51 l1_1 0).f2)).bind fun t236 => (if t236 = true then (cohousingref26_shape.l0 k (l1_1.length : Int) 1 a1_0 l1_1) else (some false))) else (none)) else (cohousingref26_shape.l1 k (l1_1.length : Int) 0 a1_0 l1_1))) = some r := h
 clear h
 by_cases c3 : (l1_1.length : Int) = 0
 ·rw [if_pos c3] at H
  have c3b0 : ((l1_1.length : Int) == 0) = true := beq_iff_eq.mpr c3
  have c3b1 : ((l1_1.length : Int) != 0) = false := bne_eq_false_iff_eq.mpr c3
  clear c3
  obtain rfl := Option.some.inj H
  go_enter Try.func47, Try.ntmps47
  go_wp2_with (first | ((with_reducible refine gate_dst (N := 2) rfl ?_); refine box_event ?hg (N := 2) ?hd (cs := #[.slice A0_0 l0_0.length c0_0, .slice A0_1 l0_1.length c0_1]) (t := 25) ?hr ?_; (case hd => rfl); (case hg => rfl); (case hr => first | (go_simp; done) | (go_simp; rfl)); intro gb233 hg w4 hbox hb; have n0_ := Aside0.mk (below_step (bb_ HB) hb); have n1_ := Aside0.mk (hbox); have n2_ := Aside0.mk ((by rw [hg]; exact (below_size (bb_ HB)) : w.heap.size ≤ gb233)); have n3_ := Aside0.mk ((by rw [hg]; exact (below_size (bb_ HB)) : w.heap.size ≤ gb233)); clear HB; have HB := n0_; have BK233 := n1_; have GW233 := n2_; have GE233 := n3_; clear n0_ n1_ n2_ n3_; clear hb hbox hg) | ((with_reducible refine gate_dst (N := 3) rfl ?_); refine box_event ?hg (N := 3) ?hd (cs := #[.bool a1_0, .slice A1_1 l1_1.length c1_1]) (t := 49) ?hr ?_; (case hd => rfl); (case hg => rfl); (case hr => first | (go_simp; done) | (go_simp; rfl)); intro gb234 hg w5 hbox hb; have n0_ := Aside0.mk (blk_below (g := gb233) (o := .cells #[.slice A0_0 l0_0.length c0_0, .slice A0_1 l0_1.length c0_1] 25 (0, 0)) (kk_ BK233) hb); have n1_ := Aside0.mk (below_step (bs_ HB GE233.out) hb); have n2_ := Aside0.mk (hbox); have n3_ := Aside0.mk ((by rw [hg]; exact (below_size (bs_ HB GE233.out)) : w.heap.size ≤ gb234)); have n4_ := Aside0.mk ((by rw [hg]; exact (below_size (bs_ HB GE233.out)) : w.heap.size ≤ gb234)); have n5_ := Aside0.mk ((by rw [hg]; exact Nat.ne_of_lt (blk_lt (g := gb233) (o := .cells #[.slice A0_0 l0_0.length c0_0, .slice A0_1 l0_1.length c0_1] 25 (0, 0)) (kk_ BK233)) : gb233 ≠ gb234)); have n6_ := Aside0.mk ((by rw [hg]; exact Nat.ne_of_gt (blk_lt (g := gb233) (o := .cells #[.slice A0_0 l0_0.length c0_0, .slice A0_1 l0_1.length c0_1] 25 (0, 0)) (kk_ BK233)) : gb234 ≠ gb233)); clear BK233; clear HB; have BK233 := n0_; have HB := n1_; have BK234 := n2_; have GW234 := n3_; have GE234 := n4_; have NB233_234 := n5_; have NB234_233 := n6_; clear n0_ n1_ n2_ n3_ n4_ n5_ n6_; clear hb hbox hg; have hnb6 := NB234_233.out; have hnc6 := NB233_234.out; have hcz7_0 : w5.cell? ⟨gb234, 0, none⟩ = some (.bool a1_0) := (blk_cell BK234.out 0).trans rfl; have hcz7_1 : w5.cell? ⟨gb234, 1, none⟩ = some (.slice A1_1 l1_1.length c1_1) := (blk_cell BK234.out 1).trans rfl; have hfz7_0 := blk_frozen BK234.out 0; have hfz7_1 := blk_frozen BK234.out 1))
  go_ret
  exact ⟨ew_, by repeat (first | (with_reducible first | exact HB.out | apply below_alloc | apply pw_below_drewN | apply below_drew1 | refine below_set ?_ GE233.out | refine below_set ?_ GE234.out) | exact HB.out)⟩
 ·rw [if_neg c3] at H
  have c3b0 : ((l1_1.length : Int) == 0) = false := beq_eq_false_iff_ne.mpr c3
  have c3b1 : ((l1_1.length : Int) != 0) = true := bne_iff_ne.mpr c3
  have c3b2 : ¬ (l1_1 = []) := fun h_ => c3 (by rw [h_]; rfl)
  by_cases c8 : a1_0 = true
  ·subst c8
   have H1 : (if 0 < (l1_1.length : Int) then ((cohousingref26_Free.f k l0_0 l0_1 ((rd_T51 l1_1 0).f2)).bind fun t236 => (if t236 = true then (cohousingref26_shape.l0 k (l1_1.length : Int) 1 true l1_1) else (some false))) else (none)) = some r := by rw [if_pos rfl] at H; exact H
   clear H
   have H := H1
   clear H1
   by_cases c9 : 0 < (l1_1.length : Int)
   ·rw [if_pos c9] at H
    have c9b0 : decide (0 < (l1_1.length : Int)) = true := decide_eq_true c9
    have c9b1 : decide (0 < l1_1.length) = true := decide_eq_true (by omega)
    clear c9
    replace H := Option.bind_eq_some_iff.mp H
    obtain ⟨t236, A100, H⟩ := H
    replace H : (if t236 = true then (cohousingref26_shape.l0 k (l1_1.length : Int) 1 true l1_1) else (some false)) = some r := H
    have A10 := Aside0.mk A100
    clear A100
    by_cases c11 : t236 = true
    ·subst c11
     have H1 : (cohousingref26_shape.l0 k (l1_1.length : Int) 1 true l1_1) = some r := by rw [if_pos rfl] at H; exact H
     clear H
     have H := H1
     clear H1
     have H' := Aside0.mk H
     clear H
     go_enter Try.func47, Try.ntmps47
     try go_wp2_with (first | ((with_reducible refine gate_dst (N := 2) rfl ?_); refine box_event ?hg (N := 2) ?hd (cs := #[.slice A0_0 l0_0.length c0_0, .slice A0_1 l0_1.length c0_1]) (t := 25) ?hr ?_; (case hd => rfl); (case hg => rfl); (case hr => first | (go_simp; done) | (go_simp; rfl)); intro gb233 hg w12 hbox hb; have n0_ := Aside0.mk (below_step (bb_ HB) hb); have n1_ := Aside0.mk (hbox); have n2_ := Aside0.mk ((by rw [hg]; exact (below_size (bb_ HB)) : w.heap.size ≤ gb233)); have n3_ := Aside0.mk ((by rw [hg]; exact (below_size (bb_ HB)) : w.heap.size ≤ gb233)); clear HB; have HB := n0_; have BK233 := n1_; have GW233 := n2_; have GE233 := n3_; clear n0_ n1_ n2_ n3_; clear hb hbox hg) | ((with_reducible refine gate_dst (N := 3) rfl ?_); refine box_event ?hg (N := 3) ?hd (cs := #[.bool true, .slice A1_1 l1_1.length c1_1]) (t := 49) ?hr ?_; (case hd => rfl); (case hg => rfl); (case hr => first | (go_simp; done) | (go_simp; rfl)); intro gb234 hg w13 hbox hb; have n0_ := Aside0.mk (blk_below (g := gb233) (o := .cells #[.slice A0_0 l0_0.length c0_0, .slice A0_1 l0_1.length c0_1] 25 (0, 0)) (kk_ BK233) hb); have n1_ := Aside0.mk (below_step (bs_ HB GE233.out) hb); have n2_ := Aside0.mk (hbox); have n3_ := Aside0.mk ((by rw [hg]; exact (below_size (bs_ HB GE233.out)) : w.heap.size ≤ gb234)); have n4_ := Aside0.mk ((by rw [hg]; exact (below_size (bs_ HB GE233.out)) : w.heap.size ≤ gb234)); have n5_ := Aside0.mk ((by rw [hg]; exact Nat.ne_of_lt (blk_lt (g := gb233) (o := .cells #[.slice A0_0 l0_0.length c0_0, .slice A0_1 l0_1.length c0_1] 25 (0, 0)) (kk_ BK233)) : gb233 ≠ gb234)); have n6_ := Aside0.mk ((by rw [hg]; exact Nat.ne_of_gt (blk_lt (g := gb233) (o := .cells #[.slice A0_0 l0_0.length c0_0, .slice A0_1 l0_1.length c0_1] 25 (0, 0)) (kk_ BK233)) : gb234 ≠ gb233)); clear BK233; clear HB; have BK233 := n0_; have HB := n1_; have BK234 := n2_; have GW234 := n3_; have GE234 := n4_; have NB233_234 := n5_; have NB234_233 := n6_; clear n0_ n1_ n2_ n3_ n4_ n5_ n6_; clear hb hbox hg; have hnb14 := NB234_233.out; have hnc14 := NB233_234.out; have hcz15_0 : w13.cell? ⟨gb234, 0, none⟩ = some (.bool true) := (blk_cell BK234.out 0).trans rfl; have hcz15_1 : w13.cell? ⟨gb234, 1, none⟩ = some (.slice A1_1 l1_1.length c1_1) := (blk_cell BK234.out 1).trans rfl; have hfz15_0 := blk_frozen BK234.out 0; have hfz15_1 := blk_frozen BK234.out 1))
     have n0_ := Aside0.mk (blk_drew BK233.out)
     have n1_ := Aside0.mk (blk_drew BK234.out)
     have n2_ := Aside0.mk (below_drew1 HB.out)
     clear BK233
     clear BK234
     clear HB
     have BK233 := n0_
     have BK234 := n1_
     have HB := n2_
     clear n0_ n1_ n2_
     have p235 : 0 ≤ (0 : Int) := (by omega)
     have q235 : 0 < (l1_1.length : Int) := od_
     obtain ⟨ad235, e235, hx235_0, hx235_1, hx235_2⟩ := at_T51 HR1_1.out 0 p235 q235
     have hw235_2 := hx235_2
     (try rw [show ((0 : Int)).toNat = 0 from rfl] at hw235_2)
     (try rw [show 0 * 3 = 0 from rfl] at hw235_2)
     (try rw [Addr.add_zero'] at hw235_2)
     have hw235_1 := hx235_1
     (try rw [show ((0 : Int)).toNat = 0 from rfl] at hw235_1)
     (try rw [show 0 * 3 = 0 from rfl] at hw235_1)
     (try rw [Addr.add_zero'] at hw235_1)
     have hw235_0 := hx235_0
     (try rw [show ((0 : Int)).toNat = 0 from rfl] at hw235_0)
     (try rw [show 0 * 3 = 0 from rfl] at hw235_0)
     (try rw [Addr.add_zero'] at hw235_0)
     cases e235
     have qi235 : (0 < l1_1.length) = True := eq_true (by omega)
     (try rw [show ((0 : Int)).toNat = 0 from rfl] at hx235_0)
     (try rw [show 0 * 3 = 0 from rfl] at hx235_0)
     (try rw [Addr.add_zero'] at hx235_0)
     (try rw [show ((0 : Int)).toNat = 0 from rfl] at hx235_1)
     (try rw [show 0 * 3 = 0 from rfl] at hx235_1)
     (try rw [Addr.add_zero'] at hx235_1)
     (try rw [show ((0 : Int)).toNat = 0 from rfl] at hx235_2)
     (try rw [show 0 * 3 = 0 from rfl] at hx235_2)
     (try rw [Addr.add_zero'] at hx235_2)
     replace hx235_0 := (HB.out.cell (World.block_lt_of_cell? w _ hx235_0)).trans hx235_0
     replace hx235_1 := (HB.out.cell (World.block_lt_of_cell? w _ hx235_1)).trans hx235_1
     replace hx235_2 := (HB.out.cell (World.block_lt_of_cell? w _ hx235_2)).trans hx235_2
     replace p235 := eq_true p235
     replace q235 := eq_true q235
     refine start_ (n := 8) (S := fun w' => w'.cell? ⟨gb233, 0, none⟩ = some (.slice A0_0 l0_0.length c0_0) ∧ w'.cell? ⟨gb233, 1, none⟩ = some (.slice A0_1 l0_1.length c0_1) ∧ w'.cell? ⟨gb234, 0, none⟩ = some (.bool true) ∧ w'.cell? ⟨gb234, 1, none⟩ = some (.slice (some ad235) l1_1.length c1_1) ∧ w'.cell? ad235 = some (.int .i64 ((rd_T51 l1_1 0).f0)) ∧ w'.cell? ⟨ad235.block, ad235.off + 1, none⟩ = some (.int .i64 ((rd_T51 l1_1 0).f1)) ∧ w'.cell? ⟨ad235.block, ad235.off + 2, none⟩ = some (.int .i64 ((rd_T51 l1_1 0).f2))) (ds := []) #[n_, n_, n_, n_, n_, n_, n_, n_] (by kernel_rfl) rfl rfl ⟨(blk_cell BK233.out 0).trans rfl, (blk_cell BK233.out 1).trans rfl, (blk_cell BK234.out 0).trans rfl, (blk_cell BK234.out 1).trans rfl, ((HB.out.cell (World.block_lt_of_cell? w _ hw235_0)).trans hw235_0), ((HB.out.cell (World.block_lt_of_cell? w _ hw235_1)).trans hw235_1), ((HB.out.cell (World.block_lt_of_cell? w _ hw235_2)).trans hw235_2)⟩ (fun hHeld => ?_); refine with_tabW cohousingref26_shape.tab5 cohousingref26_shape.bits5 (fun HT_ HW_ => ?_)
     generalize w13.drew = w16 at BK233 BK234 HB hx235_0 hx235_1 hx235_2 hHeld ⊢
     refine pu_ 1 17 (w_ 8 2) rfl HT_ ?_
     refine ta_ 0 16 (w_ 8 3) rfl HT_ HW_ hHeld (by rintro w' ⟨s0, s1, s2, s3, s4, s5, s6⟩; go_simp; with_reducible rfl) ?_
     refine ta_ 2 18 (w_ 8 7) rfl HT_ HW_ hHeld (by rintro w' ⟨s0, s1, s2, s3, s4, s5, s6⟩; go_simp; with_reducible rfl) ?_
     refine pu_ 3 19 (w_ 8 15) rfl HT_ ?_
     refine pu_ 4 20 (w_ 8 31) rfl HT_ ?_
     refine ta_ 5 21 (w_ 8 63) rfl HT_ HW_ hHeld (by rintro w' ⟨s0, s1, s2, s3, s4, s5, s6⟩; go_simp; with_reducible rfl) ?_
     refine one_ (i := 6) (N := some 22) (w_ 8 127) rfl rfl (one_of HT_.out (by kernel_rfl)) (by decide) (fun K hK => ?_)
     refine goes_ Try.func50 (by kernel_rfl) rfl #[.agg #[.slice A0_0 l0_0.length c0_0, .slice A0_1 l0_1.length c0_1], .int .i64 ((rd_T51 l1_1 0).f2)] (by rfl) rfl rfl (by (try simp only [List.map_toArray, List.map_cons, List.map_nil]); first | done | rfl | (simp only [List.length_drop, List.length_take]; rfl)) ?_
     with_reducible refine (cohousingref26_Free.calls k _ _ l0_0 _ _ l0_1 ((rd_T51 l1_1 0).f2) true _ ?side1 ?side2 ?side3 ?side4 A10.out).mono ?_
     (case side1 => exact cc_ ((Kd.C_below HR0_0.out HB.out)))
     (case side2 => exact HC0_0.out)
     (case side3 => exact cc_ ((Kd.C_below HR0_1.out HB.out)))
     (case side4 => exact HC0_1.out)
     rintro e w17 ⟨rfl, hb⟩
     refine ⟨_, rfl, ?_⟩
     have n0_ := Aside0.mk (blk_below (g := gb233) (o := .cells #[.slice A0_0 l0_0.length c0_0, .slice A0_1 l0_1.length c0_1] 25 (0, 0)) (kk_ BK233) hb)
     have n1_ := Aside0.mk (blk_below (g := gb234) (o := .cells #[.bool true, .slice (some ad235) l1_1.length c1_1] 49 (0, 0)) (kk_ BK234) hb)
     have n2_ := Aside0.mk (below_step (by repeat (first | (with_reducible first | exact HB.out | apply below_alloc | apply pw_below_drewN | apply below_drew1 | refine below_set ?_ GE233.out | refine below_set ?_ GE234.out) | exact HB.out)) hb)
     clear BK233
     clear BK234
     clear HB
     have BK233 := n0_
     have BK234 := n1_
     have HB := n2_
     clear n0_ n1_ n2_
     (try clear hb)
     (try clear hb2)
     (try clear hk)
     (try clear hi)
     refine hK.out _ _ ⟨(blk_cell BK233.out 0).trans rfl, (blk_cell BK233.out 1).trans rfl, (blk_cell BK234.out 0).trans rfl, (blk_cell BK234.out 1).trans rfl, ((HB.out.cell (World.block_lt_of_cell? w _ hw235_0)).trans hw235_0), ((HB.out.cell (World.block_lt_of_cell? w _ hw235_1)).trans hw235_1), ((HB.out.cell (World.block_lt_of_cell? w _ hw235_2)).trans hw235_2)⟩ (fun hHeld => ?_)
     clear hK K
     refine norm_ (a' := ?_) ?_ ?_
     rotate_left
     ·show Act.put _ (some 22) _ = _
      simp only [Act.put, sI_, s0_, sS_, i64_w, i32_w]
      rfl
     refine pu_ 7 6 (w_ 8 255) rfl HT_ ?_
     refine done_ (done_of HT_.out (by kernel_rfl)) ?_
     try go_wp2
     go_loopg [7] k (fun kq v7 w' => ∃ (x7_1 : Int), v7 = .int .i64 x7_1 ∧ Aside0 (cohousingref26_shape.l0 kq (l1_1.length : Int) x7_1 true l1_1 = some r) ∧ Aside0 (kq ≤ k) ∧ Aside0 (w'.heap[gb233]? = some (.cells #[(.slice A0_0 l0_0.length c0_0), (.slice A0_1 l0_1.length c0_1)] 25 (0, 0))) ∧ Aside0 (w'.heap[gb234]? = some (.cells #[.bool true, (.slice (some ad235) l1_1.length c1_1)] 49 (0, 0))) ∧ Aside0 (Below w.heap.size w w'))
     case atStart => exact ⟨(1), sd_, H', ⟨Nat.le_refl _⟩, ⟨by (with_reducible repeat (first | refine blk_drewN ?_ _ | refine blk_drew ?_ | refine blk_alloc ?_ _)); exact BK233.out⟩, ⟨by (with_reducible repeat (first | refine blk_drewN ?_ _ | refine blk_drew ?_ | refine blk_alloc ?_ _)); exact BK234.out⟩, ⟨by repeat (first | (with_reducible first | exact HB.out | apply below_alloc | apply pw_below_drewN | apply below_drew1 | refine below_set ?_ GE233.out | refine below_set ?_ GE234.out) | exact HB.out)⟩⟩
     case round =>
      clear H'
      try clear c1
      try clear p2
      try clear q2
      try clear hx2
      try clear qi2
      try clear c3
      try clear c3b0
      try clear c3b1
      try clear c3b2
      try clear c4
      try clear c5
      try clear c6
      try clear c8
      try clear c9
      try clear c9b0
      try clear c9b1
      try clear c11
      try clear c14
      try clear hcz15_0
      try clear hcz15_1
      try clear hcz7_0
      try clear hcz7_1
      try clear hfz15_0
      try clear hfz15_1
      try clear hfz7_0
      try clear hfz7_1
      try clear hx235_0
      try clear hx235_1
      try clear hx235_2
      try clear p235
      try clear q235
      obtain ⟨x7_1, rfl, HA, HK1, BK233, BK234, HB⟩ := hrel
      cases gk with
      | zero => exact absurd HA.out (by simp [cohousingref26_shape.l0])
      | succ k1 =>
       have H := HA.out
       clear HA
       simp only [cohousingref26_shape.l0] at H
       by_cases c18 : x7_1 < (l1_1.length : Int)
       ·rw [if_pos c18] at H
        have c18b0 : decide (x7_1 < (l1_1.length : Int)) = true := decide_eq_true c18
        clear c18
        by_cases c19 : 0 ≤ x7_1
        ·rw [if_pos c19] at H
         have c19b0 : decide (0 ≤ x7_1) = true := decide_eq_true c19
         clear c19
         by_cases c20 : x7_1 < (l1_1.length : Int)
         ·rw [if_pos c20] at H
          have c20b0 : decide (x7_1 < (l1_1.length : Int)) = true := decide_eq_true c20
          clear c20
          obtain ⟨ji21, hji21⟩ : ∃ j_ : Int, (wrap64 (x7_1 - 1)) = j_ := ⟨_, rfl⟩
          replace H : (if 0 ≤ (ji21) then (if (ji21) < (l1_1.length : Int) then (if ((rd_T51 l1_1 x7_1).f2) = ((rd_T51 l1_1 (ji21)).f1) then (cohousingref26_shape.l0 k1 (l1_1.length : Int) (wrap64 (x7_1 + 1)) true l1_1) else (some false)) else (none)) else (none)) = some r := by first | (rw [hji21] at H; exact H) | (simp only [hji21] at H ⊢; exact H)
          have hji21w : (IntKind.i64.wrap (x7_1 - 1)) = ji21 := (i64_w _).trans hji21
          by_cases c22 : 0 ≤ (ji21)
          ·rw [if_pos c22] at H
           have c22b0 : decide (0 ≤ (ji21)) = true := decide_eq_true c22
           clear c22
           by_cases c23 : (ji21) < (l1_1.length : Int)
           ·rw [if_pos c23] at H
            have c23b0 : decide ((ji21) < (l1_1.length : Int)) = true := decide_eq_true c23
            clear c23
            by_cases c24 : ((rd_T51 l1_1 x7_1).f2) = ((rd_T51 l1_1 (ji21)).f1)
            ·rw [if_pos c24] at H
             have c24b0 : (((rd_T51 l1_1 x7_1).f2) == ((rd_T51 l1_1 (ji21)).f1)) = true := beq_iff_eq.mpr c24
             have c24b1 : (((rd_T51 l1_1 x7_1).f2) != ((rd_T51 l1_1 (ji21)).f1)) = false := bne_eq_false_iff_eq.mpr c24
             clear c24
             have H' := Aside0.mk H
             clear H
             try go_wp2
             have n0_ := Aside0.mk (blk_drew BK233.out)
             have n1_ := Aside0.mk (blk_drew BK234.out)
             have n2_ := Aside0.mk (below_drew1 HB.out)
             clear BK233
             clear BK234
             clear HB
             have BK233 := n0_
             have BK234 := n1_
             have HB := n2_
             clear n0_ n1_ n2_
             have p237 : 0 ≤ (x7_1 : Int) := od_
             have q237 : x7_1 < (l1_1.length : Int) := od_
             obtain ⟨ad237, e237, hx237_0, hx237_1, hx237_2⟩ := at_T51 HR1_1.out x7_1 p237 q237
             have hw237_2 := hx237_2
             have hw237_1 := hx237_1
             have hw237_0 := hx237_0
             obtain rfl : ad235 = ad237 := (by injection e237)
             replace hx237_0 := (HB.out.cell (World.block_lt_of_cell? w _ hx237_0)).trans hx237_0
             replace hx237_1 := (HB.out.cell (World.block_lt_of_cell? w _ hx237_1)).trans hx237_1
             replace hx237_2 := (HB.out.cell (World.block_lt_of_cell? w _ hx237_2)).trans hx237_2
             replace p237 := eq_true p237
             replace q237 := eq_true q237
             have p238 : 0 ≤ ((ji21) : Int) := od_
             have q238 : (ji21) < (l1_1.length : Int) := od_
             obtain ⟨ad238, e238, hx238_0, hx238_1, hx238_2⟩ := at_T51 HR1_1.out (ji21) p238 q238
             have hw238_2 := hx238_2
             have hw238_1 := hx238_1
             have hw238_0 := hx238_0
             obtain rfl : ad235 = ad238 := (by injection e238)
             replace hx238_0 := (HB.out.cell (World.block_lt_of_cell? w _ hx238_0)).trans hx238_0
             replace hx238_1 := (HB.out.cell (World.block_lt_of_cell? w _ hx238_1)).trans hx238_1
             replace hx238_2 := (HB.out.cell (World.block_lt_of_cell? w _ hx238_2)).trans hx238_2
             replace p238 := eq_true p238
             replace q238 := eq_true q238
             refine start_ (n := 14) (S := fun w' => w'.cell? ⟨gb234, 0, none⟩ = some (.bool true) ∧ w'.cell? ⟨gb234, 1, none⟩ = some (.slice (some ad235) l1_1.length c1_1) ∧ w'.cell? (ad235.add ((x7_1).toNat * 3)) = some (.int .i64 ((rd_T51 l1_1 x7_1).f0)) ∧ w'.cell? ⟨(ad235.add ((x7_1).toNat * 3)).block, (ad235.add ((x7_1).toNat * 3)).off + 1, none⟩ = some (.int .i64 ((rd_T51 l1_1 x7_1).f1)) ∧ w'.cell? ⟨(ad235.add ((x7_1).toNat * 3)).block, (ad235.add ((x7_1).toNat * 3)).off + 2, none⟩ = some (.int .i64 ((rd_T51 l1_1 x7_1).f2)) ∧ w'.cell? (ad235.add (((ji21)).toNat * 3)) = some (.int .i64 ((rd_T51 l1_1 (ji21)).f0)) ∧ w'.cell? ⟨(ad235.add (((ji21)).toNat * 3)).block, (ad235.add (((ji21)).toNat * 3)).off + 1, none⟩ = some (.int .i64 ((rd_T51 l1_1 (ji21)).f1)) ∧ w'.cell? ⟨(ad235.add (((ji21)).toNat * 3)).block, (ad235.add (((ji21)).toNat * 3)).off + 2, none⟩ = some (.int .i64 ((rd_T51 l1_1 (ji21)).f2))) (ds := []) #[n_, n_, n_, n_, n_, n_, n_, n_, n_, n_, n_, n_, n_, n_] (by kernel_rfl) rfl rfl ⟨(blk_cell BK234.out 0).trans rfl, (blk_cell BK234.out 1).trans rfl, ((HB.out.cell (World.block_lt_of_cell? w _ hw237_0)).trans hw237_0), ((HB.out.cell (World.block_lt_of_cell? w _ hw237_1)).trans hw237_1), ((HB.out.cell (World.block_lt_of_cell? w _ hw237_2)).trans hw237_2), ((HB.out.cell (World.block_lt_of_cell? w _ hw238_0)).trans hw238_0), ((HB.out.cell (World.block_lt_of_cell? w _ hw238_1)).trans hw238_1), ((HB.out.cell (World.block_lt_of_cell? w _ hw238_2)).trans hw238_2)⟩ (fun hHeld => ?_); refine with_tabW cohousingref26_shape.tab11 cohousingref26_shape.bits11 (fun HT_ HW_ => ?_)
             generalize wr.drew = w25 at BK233 BK234 HB hx237_0 hx237_1 hx237_2 hx238_0 hx238_1 hx238_2 hHeld ⊢
             refine pu_ 0 30 (w_ 14 1) rfl HT_ ?_
             refine pu_ 2 32 (w_ 14 5) rfl HT_ ?_
             refine pu_ 6 36 (w_ 14 69) rfl HT_ ?_
             refine pu_ 8 38 (w_ 14 325) rfl HT_ ?_
             refine pu_ 9 39 (w_ 14 837) rfl HT_ ?_
             refine ta_ 1 31 (w_ 14 839) rfl HT_ HW_ hHeld (by rintro w' ⟨s0, s1, s2, s3, s4, s5, s6, s7⟩; go_simp; with_reducible rfl) ?_
             refine pu_ 3 33 (w_ 14 847) rfl HT_ ?_
             refine pu_ 4 34 (w_ 14 863) rfl HT_ ?_
             refine ta_ 5 35 (w_ 14 895) rfl HT_ HW_ hHeld (by rintro w' ⟨s0, s1, s2, s3, s4, s5, s6, s7⟩; go_simp; with_reducible rfl) ?_
             refine ta_ 7 37 (w_ 14 1023) rfl HT_ HW_ hHeld (by rintro w' ⟨s0, s1, s2, s3, s4, s5, s6, s7⟩; go_simp; with_reducible rfl) ?_
             refine pu_ 10 40 (w_ 14 2047) rfl HT_ ?_
             refine pu_ 11 41 (w_ 14 4095) rfl HT_ ?_
             refine ta_ 12 42 (w_ 14 8191) rfl HT_ HW_ hHeld (by rintro w' ⟨s0, s1, s2, s3, s4, s5, s6, s7⟩; go_simp; with_reducible rfl) ?_
             refine pu_ 13 43 (w_ 14 16383) rfl HT_ ?_
             refine done_ (done_of HT_.out (by kernel_rfl)) ?_
             try go_wp2
             go_roundg k1
             case measure => have := HK1.out; omega
             case rel => exact ⟨(wrap64 (x7_1 + 1)), sd_, H', ⟨by have := HK1.out; omega⟩, ⟨by (with_reducible repeat (first | refine blk_drewN ?_ _ | refine blk_drew ?_ | refine blk_alloc ?_ _)); exact BK233.out⟩, ⟨by (with_reducible repeat (first | refine blk_drewN ?_ _ | refine blk_drew ?_ | refine blk_alloc ?_ _)); exact BK234.out⟩, ⟨by repeat (first | (with_reducible first | exact HB.out | apply below_alloc | apply pw_below_drewN | apply below_drew1 | refine below_set ?_ GE233.out | refine below_set ?_ GE234.out) | exact HB.out)⟩⟩
            ·rw [if_neg c24] at H
             have c24b0 : (((rd_T51 l1_1 x7_1).f2) == ((rd_T51 l1_1 (ji21)).f1)) = false := beq_eq_false_iff_ne.mpr c24
             have c24b1 : (((rd_T51 l1_1 x7_1).f2) != ((rd_T51 l1_1 (ji21)).f1)) = true := bne_iff_ne.mpr c24
             obtain rfl := Option.some.inj H
             try go_wp2
             have n0_ := Aside0.mk (blk_drew BK233.out)
             have n1_ := Aside0.mk (blk_drew BK234.out)
             have n2_ := Aside0.mk (below_drew1 HB.out)
             clear BK233
             clear BK234
             clear HB
             have BK233 := n0_
             have BK234 := n1_
             have HB := n2_
             clear n0_ n1_ n2_
             have p237 : 0 ≤ (x7_1 : Int) := od_
             have q237 : x7_1 < (l1_1.length : Int) := od_
             obtain ⟨ad237, e237, hx237_0, hx237_1, hx237_2⟩ := at_T51 HR1_1.out x7_1 p237 q237
             have hw237_2 := hx237_2
             have hw237_1 := hx237_1
             have hw237_0 := hx237_0
             obtain rfl : ad235 = ad237 := (by injection e237)
             replace hx237_0 := (HB.out.cell (World.block_lt_of_cell? w _ hx237_0)).trans hx237_0
             replace hx237_1 := (HB.out.cell (World.block_lt_of_cell? w _ hx237_1)).trans hx237_1
             replace hx237_2 := (HB.out.cell (World.block_lt_of_cell? w _ hx237_2)).trans hx237_2
             replace p237 := eq_true p237
             replace q237 := eq_true q237
             have p238 : 0 ≤ ((ji21) : Int) := od_
             have q238 : (ji21) < (l1_1.length : Int) := od_
             obtain ⟨ad238, e238, hx238_0, hx238_1, hx238_2⟩ := at_T51 HR1_1.out (ji21) p238 q238
             have hw238_2 := hx238_2
             have hw238_1 := hx238_1
             have hw238_0 := hx238_0
             obtain rfl : ad235 = ad238 := (by injection e238)
             replace hx238_0 := (HB.out.cell (World.block_lt_of_cell? w _ hx238_0)).trans hx238_0
             replace hx238_1 := (HB.out.cell (World.block_lt_of_cell? w _ hx238_1)).trans hx238_1
             replace hx238_2 := (HB.out.cell (World.block_lt_of_cell? w _ hx238_2)).trans hx238_2
             replace p238 := eq_true p238
             replace q238 := eq_true q238
             refine start_ (n := 14) (S := fun w' => w'.cell? ⟨gb234, 0, none⟩ = some (.bool true) ∧ w'.cell? ⟨gb234, 1, none⟩ = some (.slice (some ad235) l1_1.length c1_1) ∧ w'.cell? (ad235.add ((x7_1).toNat * 3)) = some (.int .i64 ((rd_T51 l1_1 x7_1).f0)) ∧ w'.cell? ⟨(ad235.add ((x7_1).toNat * 3)).block, (ad235.add ((x7_1).toNat * 3)).off + 1, none⟩ = some (.int .i64 ((rd_T51 l1_1 x7_1).f1)) ∧ w'.cell? ⟨(ad235.add ((x7_1).toNat * 3)).block, (ad235.add ((x7_1).toNat * 3)).off + 2, none⟩ = some (.int .i64 ((rd_T51 l1_1 x7_1).f2)) ∧ w'.cell? (ad235.add (((ji21)).toNat * 3)) = some (.int .i64 ((rd_T51 l1_1 (ji21)).f0)) ∧ w'.cell? ⟨(ad235.add (((ji21)).toNat * 3)).block, (ad235.add (((ji21)).toNat * 3)).off + 1, none⟩ = some (.int .i64 ((rd_T51 l1_1 (ji21)).f1)) ∧ w'.cell? ⟨(ad235.add (((ji21)).toNat * 3)).block, (ad235.add (((ji21)).toNat * 3)).off + 2, none⟩ = some (.int .i64 ((rd_T51 l1_1 (ji21)).f2))) (ds := []) #[n_, n_, n_, n_, n_, n_, n_, n_, n_, n_, n_, n_, n_, n_] (by kernel_rfl) rfl rfl ⟨(blk_cell BK234.out 0).trans rfl, (blk_cell BK234.out 1).trans rfl, ((HB.out.cell (World.block_lt_of_cell? w _ hw237_0)).trans hw237_0), ((HB.out.cell (World.block_lt_of_cell? w _ hw237_1)).trans hw237_1), ((HB.out.cell (World.block_lt_of_cell? w _ hw237_2)).trans hw237_2), ((HB.out.cell (World.block_lt_of_cell? w _ hw238_0)).trans hw238_0), ((HB.out.cell (World.block_lt_of_cell? w _ hw238_1)).trans hw238_1), ((HB.out.cell (World.block_lt_of_cell? w _ hw238_2)).trans hw238_2)⟩ (fun hHeld => ?_); refine with_tabW cohousingref26_shape.tab11 cohousingref26_shape.bits11 (fun HT_ HW_ => ?_)
             generalize wr.drew = w26 at BK233 BK234 HB hx237_0 hx237_1 hx237_2 hx238_0 hx238_1 hx238_2 hHeld ⊢
             refine pu_ 0 30 (w_ 14 1) rfl HT_ ?_
             refine pu_ 2 32 (w_ 14 5) rfl HT_ ?_
             refine pu_ 6 36 (w_ 14 69) rfl HT_ ?_
             refine pu_ 8 38 (w_ 14 325) rfl HT_ ?_
             refine pu_ 9 39 (w_ 14 837) rfl HT_ ?_
             refine ta_ 1 31 (w_ 14 839) rfl HT_ HW_ hHeld (by rintro w' ⟨s0, s1, s2, s3, s4, s5, s6, s7⟩; go_simp; with_reducible rfl) ?_
             refine pu_ 3 33 (w_ 14 847) rfl HT_ ?_
             refine pu_ 4 34 (w_ 14 863) rfl HT_ ?_
             refine ta_ 5 35 (w_ 14 895) rfl HT_ HW_ hHeld (by rintro w' ⟨s0, s1, s2, s3, s4, s5, s6, s7⟩; go_simp; with_reducible rfl) ?_
             refine ta_ 7 37 (w_ 14 1023) rfl HT_ HW_ hHeld (by rintro w' ⟨s0, s1, s2, s3, s4, s5, s6, s7⟩; go_simp; with_reducible rfl) ?_
             refine pu_ 10 40 (w_ 14 2047) rfl HT_ ?_
             refine pu_ 11 41 (w_ 14 4095) rfl HT_ ?_
             refine ta_ 12 42 (w_ 14 8191) rfl HT_ HW_ hHeld (by rintro w' ⟨s0, s1, s2, s3, s4, s5, s6, s7⟩; go_simp; with_reducible rfl) ?_
             refine pu_ 13 43 (w_ 14 16383) rfl HT_ ?_
             refine done_ (done_of HT_.out (by kernel_rfl)) ?_
             try go_wp2
             go_ret
             exact ⟨by first | rfl | (simp [errW_none, errW_some] <;> rfl) | (simp only [← hji21]; first | rfl | (simp [errW_none, errW_some] <;> rfl)) | (simp [*, errW_none, errW_some] <;> rfl), by repeat (first | (with_reducible first | exact HB.out | apply below_alloc | apply pw_below_drewN | apply below_drew1 | refine below_set ?_ GE233.out | refine below_set ?_ GE234.out) | exact HB.out)⟩
           ·rw [if_neg c23] at H
            exact absurd H (by simp)
          ·rw [if_neg c22] at H
           exact absurd H (by simp)
         ·rw [if_neg c20] at H
          exact absurd H (by simp)
        ·rw [if_neg c19] at H
         exact absurd H (by simp)
       ·rw [if_neg c18] at H
        have c18b0 : decide (x7_1 < (l1_1.length : Int)) = false := decide_eq_false c18
        clear c18
        obtain rfl := Option.some.inj H
        go_wp2
        go_ret
        exact ⟨ew_, by repeat (first | (with_reducible first | exact HB.out | apply below_alloc | apply pw_below_drewN | apply below_drew1 | refine below_set ?_ GE233.out | refine below_set ?_ GE234.out) | exact HB.out)⟩
    ·replace c11 := Bool.eq_false_iff.mpr c11
     subst c11
     have H1 : (some false) = some r := by rw [if_neg (show ¬ (false = true) by decide)] at H; exact H
     clear H
     have H := H1
     clear H1
     obtain rfl := Option.some.inj H
     go_enter Try.func47, Try.ntmps47
     try go_wp2_with (first | ((with_reducible refine gate_dst (N := 2) rfl ?_); refine box_event ?hg (N := 2) ?hd (cs := #[.slice A0_0 l0_0.length c0_0, .slice A0_1 l0_1.length c0_1]) (t := 25) ?hr ?_; (case hd => rfl); (case hg => rfl); (case hr => first | (go_simp; done) | (go_simp; rfl)); intro gb233 hg w27 hbox hb; have n0_ := Aside0.mk (below_step (bb_ HB) hb); have n1_ := Aside0.mk (hbox); have n2_ := Aside0.mk ((by rw [hg]; exact (below_size (bb_ HB)) : w.heap.size ≤ gb233)); have n3_ := Aside0.mk ((by rw [hg]; exact (below_size (bb_ HB)) : w.heap.size ≤ gb233)); clear HB; have HB := n0_; have BK233 := n1_; have GW233 := n2_; have GE233 := n3_; clear n0_ n1_ n2_ n3_; clear hb hbox hg) | ((with_reducible refine gate_dst (N := 3) rfl ?_); refine box_event ?hg (N := 3) ?hd (cs := #[.bool true, .slice A1_1 l1_1.length c1_1]) (t := 49) ?hr ?_; (case hd => rfl); (case hg => rfl); (case hr => first | (go_simp; done) | (go_simp; rfl)); intro gb234 hg w28 hbox hb; have n0_ := Aside0.mk (blk_below (g := gb233) (o := .cells #[.slice A0_0 l0_0.length c0_0, .slice A0_1 l0_1.length c0_1] 25 (0, 0)) (kk_ BK233) hb); have n1_ := Aside0.mk (below_step (bs_ HB GE233.out) hb); have n2_ := Aside0.mk (hbox); have n3_ := Aside0.mk ((by rw [hg]; exact (below_size (bs_ HB GE233.out)) : w.heap.size ≤ gb234)); have n4_ := Aside0.mk ((by rw [hg]; exact (below_size (bs_ HB GE233.out)) : w.heap.size ≤ gb234)); have n5_ := Aside0.mk ((by rw [hg]; exact Nat.ne_of_lt (blk_lt (g := gb233) (o := .cells #[.slice A0_0 l0_0.length c0_0, .slice A0_1 l0_1.length c0_1] 25 (0, 0)) (kk_ BK233)) : gb233 ≠ gb234)); have n6_ := Aside0.mk ((by rw [hg]; exact Nat.ne_of_gt (blk_lt (g := gb233) (o := .cells #[.slice A0_0 l0_0.length c0_0, .slice A0_1 l0_1.length c0_1] 25 (0, 0)) (kk_ BK233)) : gb234 ≠ gb233)); clear BK233; clear HB; have BK233 := n0_; have HB := n1_; have BK234 := n2_; have GW234 := n3_; have GE234 := n4_; have NB233_234 := n5_; have NB234_233 := n6_; clear n0_ n1_ n2_ n3_ n4_ n5_ n6_; clear hb hbox hg; have hnb29 := NB234_233.out; have hnc29 := NB233_234.out; have hcz30_0 : w28.cell? ⟨gb234, 0, none⟩ = some (.bool true) := (blk_cell BK234.out 0).trans rfl; have hcz30_1 : w28.cell? ⟨gb234, 1, none⟩ = some (.slice A1_1 l1_1.length c1_1) := (blk_cell BK234.out 1).trans rfl; have hfz30_0 := blk_frozen BK234.out 0; have hfz30_1 := blk_frozen BK234.out 1))
     have n0_ := Aside0.mk (blk_drew BK233.out)
     have n1_ := Aside0.mk (blk_drew BK234.out)
     have n2_ := Aside0.mk (below_drew1 HB.out)
     clear BK233
     clear BK234
     clear HB
     have BK233 := n0_
     have BK234 := n1_
     have HB := n2_
     clear n0_ n1_ n2_
     have p235 : 0 ≤ (0 : Int) := (by omega)
     have q235 : 0 < (l1_1.length : Int) := od_
     obtain ⟨ad235, e235, hx235_0, hx235_1, hx235_2⟩ := at_T51 HR1_1.out 0 p235 q235
     have hw235_2 := hx235_2
     (try rw [show ((0 : Int)).toNat = 0 from rfl] at hw235_2)
     (try rw [show 0 * 3 = 0 from rfl] at hw235_2)
     (try rw [Addr.add_zero'] at hw235_2)
     have hw235_1 := hx235_1
     (try rw [show ((0 : Int)).toNat = 0 from rfl] at hw235_1)
     (try rw [show 0 * 3 = 0 from rfl] at hw235_1)
     (try rw [Addr.add_zero'] at hw235_1)
     have hw235_0 := hx235_0
     (try rw [show ((0 : Int)).toNat = 0 from rfl] at hw235_0)
     (try rw [show 0 * 3 = 0 from rfl] at hw235_0)
     (try rw [Addr.add_zero'] at hw235_0)
     cases e235
     have qi235 : (0 < l1_1.length) = True := eq_true (by omega)
     (try rw [show ((0 : Int)).toNat = 0 from rfl] at hx235_0)
     (try rw [show 0 * 3 = 0 from rfl] at hx235_0)
     (try rw [Addr.add_zero'] at hx235_0)
     (try rw [show ((0 : Int)).toNat = 0 from rfl] at hx235_1)
     (try rw [show 0 * 3 = 0 from rfl] at hx235_1)
     (try rw [Addr.add_zero'] at hx235_1)
     (try rw [show ((0 : Int)).toNat = 0 from rfl] at hx235_2)
     (try rw [show 0 * 3 = 0 from rfl] at hx235_2)
     (try rw [Addr.add_zero'] at hx235_2)
     replace hx235_0 := (HB.out.cell (World.block_lt_of_cell? w _ hx235_0)).trans hx235_0
     replace hx235_1 := (HB.out.cell (World.block_lt_of_cell? w _ hx235_1)).trans hx235_1
     replace hx235_2 := (HB.out.cell (World.block_lt_of_cell? w _ hx235_2)).trans hx235_2
     replace p235 := eq_true p235
     replace q235 := eq_true q235
     refine start_ (n := 8) (S := fun w' => w'.cell? ⟨gb233, 0, none⟩ = some (.slice A0_0 l0_0.length c0_0) ∧ w'.cell? ⟨gb233, 1, none⟩ = some (.slice A0_1 l0_1.length c0_1) ∧ w'.cell? ⟨gb234, 0, none⟩ = some (.bool true) ∧ w'.cell? ⟨gb234, 1, none⟩ = some (.slice (some ad235) l1_1.length c1_1) ∧ w'.cell? ad235 = some (.int .i64 ((rd_T51 l1_1 0).f0)) ∧ w'.cell? ⟨ad235.block, ad235.off + 1, none⟩ = some (.int .i64 ((rd_T51 l1_1 0).f1)) ∧ w'.cell? ⟨ad235.block, ad235.off + 2, none⟩ = some (.int .i64 ((rd_T51 l1_1 0).f2))) (ds := []) #[n_, n_, n_, n_, n_, n_, n_, n_] (by kernel_rfl) rfl rfl ⟨(blk_cell BK233.out 0).trans rfl, (blk_cell BK233.out 1).trans rfl, (blk_cell BK234.out 0).trans rfl, (blk_cell BK234.out 1).trans rfl, ((HB.out.cell (World.block_lt_of_cell? w _ hw235_0)).trans hw235_0), ((HB.out.cell (World.block_lt_of_cell? w _ hw235_1)).trans hw235_1), ((HB.out.cell (World.block_lt_of_cell? w _ hw235_2)).trans hw235_2)⟩ (fun hHeld => ?_); refine with_tabW cohousingref26_shape.tab5 cohousingref26_shape.bits5 (fun HT_ HW_ => ?_)
     generalize w28.drew = w31 at BK233 BK234 HB hx235_0 hx235_1 hx235_2 hHeld ⊢
     refine pu_ 1 17 (w_ 8 2) rfl HT_ ?_
     refine ta_ 0 16 (w_ 8 3) rfl HT_ HW_ hHeld (by rintro w' ⟨s0, s1, s2, s3, s4, s5, s6⟩; go_simp; with_reducible rfl) ?_
     refine ta_ 2 18 (w_ 8 7) rfl HT_ HW_ hHeld (by rintro w' ⟨s0, s1, s2, s3, s4, s5, s6⟩; go_simp; with_reducible rfl) ?_
     refine pu_ 3 19 (w_ 8 15) rfl HT_ ?_
     refine pu_ 4 20 (w_ 8 31) rfl HT_ ?_
     refine ta_ 5 21 (w_ 8 63) rfl HT_ HW_ hHeld (by rintro w' ⟨s0, s1, s2, s3, s4, s5, s6⟩; go_simp; with_reducible rfl) ?_
     refine one_ (i := 6) (N := some 22) (w_ 8 127) rfl rfl (one_of HT_.out (by kernel_rfl)) (by decide) (fun K hK => ?_)
     refine goes_ Try.func50 (by kernel_rfl) rfl #[.agg #[.slice A0_0 l0_0.length c0_0, .slice A0_1 l0_1.length c0_1], .int .i64 ((rd_T51 l1_1 0).f2)] (by rfl) rfl rfl (by (try simp only [List.map_toArray, List.map_cons, List.map_nil]); first | done | rfl | (simp only [List.length_drop, List.length_take]; rfl)) ?_
     with_reducible refine (cohousingref26_Free.calls k _ _ l0_0 _ _ l0_1 ((rd_T51 l1_1 0).f2) false _ ?side1 ?side2 ?side3 ?side4 A10.out).mono ?_
     (case side1 => exact cc_ ((Kd.C_below HR0_0.out HB.out)))
     (case side2 => exact HC0_0.out)
     (case side3 => exact cc_ ((Kd.C_below HR0_1.out HB.out)))
     (case side4 => exact HC0_1.out)
     rintro e w32 ⟨rfl, hb⟩
     refine ⟨_, rfl, ?_⟩
     have n0_ := Aside0.mk (blk_below (g := gb233) (o := .cells #[.slice A0_0 l0_0.length c0_0, .slice A0_1 l0_1.length c0_1] 25 (0, 0)) (kk_ BK233) hb)
     have n1_ := Aside0.mk (blk_below (g := gb234) (o := .cells #[.bool true, .slice (some ad235) l1_1.length c1_1] 49 (0, 0)) (kk_ BK234) hb)
     have n2_ := Aside0.mk (below_step (by repeat (first | (with_reducible first | exact HB.out | apply below_alloc | apply pw_below_drewN | apply below_drew1 | refine below_set ?_ GE233.out | refine below_set ?_ GE234.out) | exact HB.out)) hb)
     clear BK233
     clear BK234
     clear HB
     have BK233 := n0_
     have BK234 := n1_
     have HB := n2_
     clear n0_ n1_ n2_
     (try clear hb)
     (try clear hb2)
     (try clear hk)
     (try clear hi)
     refine hK.out _ _ ⟨(blk_cell BK233.out 0).trans rfl, (blk_cell BK233.out 1).trans rfl, (blk_cell BK234.out 0).trans rfl, (blk_cell BK234.out 1).trans rfl, ((HB.out.cell (World.block_lt_of_cell? w _ hw235_0)).trans hw235_0), ((HB.out.cell (World.block_lt_of_cell? w _ hw235_1)).trans hw235_1), ((HB.out.cell (World.block_lt_of_cell? w _ hw235_2)).trans hw235_2)⟩ (fun hHeld => ?_)
     clear hK K
     refine norm_ (a' := ?_) ?_ ?_
     rotate_left
     ·show Act.put _ (some 22) _ = _
      simp only [Act.put, sI_, s0_, sS_, i64_w, i32_w]
      rfl
     refine pu_ 7 6 (w_ 8 255) rfl HT_ ?_
     refine done_ (done_of HT_.out (by kernel_rfl)) ?_
     try go_wp2
     go_ret
     exact ⟨ew_, by repeat (first | (with_reducible first | exact HB.out | apply below_alloc | apply pw_below_drewN | apply below_drew1 | refine below_set ?_ GE233.out | refine below_set ?_ GE234.out) | exact HB.out)⟩
   ·rw [if_neg c9] at H
    exact absurd H (by simp)
  ·replace c8 := Bool.eq_false_iff.mpr c8
   subst c8
   have H1 : (cohousingref26_shape.l1 k (l1_1.length : Int) 0 false l1_1) = some r := by rw [if_neg (show ¬ (false = true) by decide)] at H; exact H
   clear H
   have H := H1
   clear H1
   have H' := Aside0.mk H
   clear H
   go_enter Try.func47, Try.ntmps47
   go_wp2_with (first | ((with_reducible refine gate_dst (N := 2) rfl ?_); refine box_event ?hg (N := 2) ?hd (cs := #[.slice A0_0 l0_0.length c0_0, .slice A0_1 l0_1.length c0_1]) (t := 25) ?hr ?_; (case hd => rfl); (case hg => rfl); (case hr => first | (go_simp; done) | (go_simp; rfl)); intro gb233 hg w33 hbox hb; have n0_ := Aside0.mk (below_step (bb_ HB) hb); have n1_ := Aside0.mk (hbox); have n2_ := Aside0.mk ((by rw [hg]; exact (below_size (bb_ HB)) : w.heap.size ≤ gb233)); have n3_ := Aside0.mk ((by rw [hg]; exact (below_size (bb_ HB)) : w.heap.size ≤ gb233)); clear HB; have HB := n0_; have BK233 := n1_; have GW233 := n2_; have GE233 := n3_; clear n0_ n1_ n2_ n3_; clear hb hbox hg) | ((with_reducible refine gate_dst (N := 3) rfl ?_); refine box_event ?hg (N := 3) ?hd (cs := #[.bool false, .slice A1_1 l1_1.length c1_1]) (t := 49) ?hr ?_; (case hd => rfl); (case hg => rfl); (case hr => first | (go_simp; done) | (go_simp; rfl)); intro gb234 hg w34 hbox hb; have n0_ := Aside0.mk (blk_below (g := gb233) (o := .cells #[.slice A0_0 l0_0.length c0_0, .slice A0_1 l0_1.length c0_1] 25 (0, 0)) (kk_ BK233) hb); have n1_ := Aside0.mk (below_step (bs_ HB GE233.out) hb); have n2_ := Aside0.mk (hbox); have n3_ := Aside0.mk ((by rw [hg]; exact (below_size (bs_ HB GE233.out)) : w.heap.size ≤ gb234)); have n4_ := Aside0.mk ((by rw [hg]; exact (below_size (bs_ HB GE233.out)) : w.heap.size ≤ gb234)); have n5_ := Aside0.mk ((by rw [hg]; exact Nat.ne_of_lt (blk_lt (g := gb233) (o := .cells #[.slice A0_0 l0_0.length c0_0, .slice A0_1 l0_1.length c0_1] 25 (0, 0)) (kk_ BK233)) : gb233 ≠ gb234)); have n6_ := Aside0.mk ((by rw [hg]; exact Nat.ne_of_gt (blk_lt (g := gb233) (o := .cells #[.slice A0_0 l0_0.length c0_0, .slice A0_1 l0_1.length c0_1] 25 (0, 0)) (kk_ BK233)) : gb234 ≠ gb233)); clear BK233; clear HB; have BK233 := n0_; have HB := n1_; have BK234 := n2_; have GW234 := n3_; have GE234 := n4_; have NB233_234 := n5_; have NB234_233 := n6_; clear n0_ n1_ n2_ n3_ n4_ n5_ n6_; clear hb hbox hg; have hnb35 := NB234_233.out; have hnc35 := NB233_234.out; have hcz36_0 : w34.cell? ⟨gb234, 0, none⟩ = some (.bool false) := (blk_cell BK234.out 0).trans rfl; have hcz36_1 : w34.cell? ⟨gb234, 1, none⟩ = some (.slice A1_1 l1_1.length c1_1) := (blk_cell BK234.out 1).trans rfl; have hfz36_0 := blk_frozen BK234.out 0; have hfz36_1 := blk_frozen BK234.out 1))
   go_loopg [8] k (fun kq v8 w' => ∃ (x8_1 : Int), v8 = .int .i64 x8_1 ∧ Aside0 (cohousingref26_shape.l1 kq (l1_1.length : Int) x8_1 false l1_1 = some r) ∧ Aside0 (kq ≤ k) ∧ Aside0 (w'.heap[gb233]? = some (.cells #[(.slice A0_0 l0_0.length c0_0), (.slice A0_1 l0_1.length c0_1)] 25 (0, 0))) ∧ Aside0 (w'.heap[gb234]? = some (.cells #[.bool false, (.slice A1_1 l1_1.length c1_1)] 49 (0, 0))) ∧ Aside0 (Below w.heap.size w w'))
   case atStart => exact ⟨(0), sd_, H', ⟨Nat.le_refl _⟩, ⟨by (with_reducible repeat (first | refine blk_drewN ?_ _ | refine blk_drew ?_ | refine blk_alloc ?_ _)); exact BK233.out⟩, ⟨by (with_reducible repeat (first | refine blk_drewN ?_ _ | refine blk_drew ?_ | refine blk_alloc ?_ _)); exact BK234.out⟩, ⟨by repeat (first | (with_reducible first | exact HB.out | apply below_alloc | apply pw_below_drewN | apply below_drew1 | refine below_set ?_ GE233.out | refine below_set ?_ GE234.out) | exact HB.out)⟩⟩
   case round =>
    clear H'
    try clear c1
    try clear c2
    try clear p2
    try clear q2
    try clear hx2
    try clear qi2
    try clear c3
    try clear c3b0
    try clear c3b1
    try clear c3b2
    try clear c4
    try clear c5
    try clear c6
    try clear p6
    try clear c8
    try clear c9
    try clear c9b0
    try clear c9b1
    try clear c11
    try clear c14
    try clear c18
    try clear c18b0
    try clear c19
    try clear c19b0
    try clear c20
    try clear c20b0
    try clear c22
    try clear c22b0
    try clear c23
    try clear c23b0
    try clear p23
    try clear q23
    try clear hx23
    try clear qi23
    try clear c24
    try clear c24b0
    try clear c24b1
    try clear c29
    try clear c35
    try clear hcz15_0
    try clear hcz15_1
    try clear hcz30_0
    try clear hcz30_1
    try clear hcz36_0
    try clear hcz36_1
    try clear hcz7_0
    try clear hcz7_1
    try clear hfz15_0
    try clear hfz15_1
    try clear hfz30_0
    try clear hfz30_1
    try clear hfz36_0
    try clear hfz36_1
    try clear hfz7_0
    try clear hfz7_1
    try clear hx235_0
    try clear hx235_1
    try clear hx235_2
    try clear hx237_0
    try clear hx237_1
    try clear hx237_2
    try clear hx238_0
    try clear hx238_1
    try clear hx238_2
    try clear p2
    try clear p235
    try clear p237
    try clear p238
    try clear q2
    try clear q235
    try clear q237
    try clear q238
    obtain ⟨x8_1, rfl, HA, HK1, BK233, BK234, HB⟩ := hrel
    cases gk with
    | zero => exact absurd HA.out (by simp [cohousingref26_shape.l1])
    | succ k1 =>
     have H := HA.out
     clear HA
     simp only [cohousingref26_shape.l1] at H
     by_cases c37 : x8_1 < (l1_1.length : Int)
     ·rw [if_pos c37] at H
      have c37b0 : decide (x8_1 < (l1_1.length : Int)) = true := decide_eq_true c37
      clear c37
      by_cases c38 : 0 ≤ x8_1
      ·rw [if_pos c38] at H
       have c38b0 : decide (0 ≤ x8_1) = true := decide_eq_true c38
       clear c38
       by_cases c39 : x8_1 < (l1_1.length : Int)
       ·rw [if_pos c39] at H
        have c39b0 : decide (x8_1 < (l1_1.length : Int)) = true := decide_eq_true c39
        clear c39
        by_cases c40 : ((rd_T51 l1_1 x8_1).f1) = 0
        ·rw [if_pos c40] at H
         have c40b0 : (((rd_T51 l1_1 x8_1).f1) == 0) = true := beq_iff_eq.mpr c40
         have c40b1 : (((rd_T51 l1_1 x8_1).f1) != 0) = false := bne_eq_false_iff_eq.mpr c40
         clear c40
         obtain rfl := Option.some.inj H
         try go_wp2
         have n0_ := Aside0.mk (blk_drew BK233.out)
         have n1_ := Aside0.mk (blk_drew BK234.out)
         have n2_ := Aside0.mk (below_drew1 HB.out)
         clear BK233
         clear BK234
         clear HB
         have BK233 := n0_
         have BK234 := n1_
         have HB := n2_
         clear n0_ n1_ n2_
         have p239 : 0 ≤ (x8_1 : Int) := od_
         have q239 : x8_1 < (l1_1.length : Int) := od_
         obtain ⟨ad239, e239, hx239_0, hx239_1, hx239_2⟩ := at_T51 HR1_1.out x8_1 p239 q239
         have hw239_2 := hx239_2
         have hw239_1 := hx239_1
         have hw239_0 := hx239_0
         cases e239
         replace hx239_0 := (HB.out.cell (World.block_lt_of_cell? w _ hx239_0)).trans hx239_0
         replace hx239_1 := (HB.out.cell (World.block_lt_of_cell? w _ hx239_1)).trans hx239_1
         replace hx239_2 := (HB.out.cell (World.block_lt_of_cell? w _ hx239_2)).trans hx239_2
         replace p239 := eq_true p239
         replace q239 := eq_true q239
         refine start_ (n := 25) (S := fun w' => w'.cell? ⟨gb234, 0, none⟩ = some (.bool false) ∧ w'.cell? ⟨gb234, 1, none⟩ = some (.slice (some ad239) l1_1.length c1_1) ∧ w'.cell? (ad239.add ((x8_1).toNat * 3)) = some (.int .i64 ((rd_T51 l1_1 x8_1).f0)) ∧ w'.cell? ⟨(ad239.add ((x8_1).toNat * 3)).block, (ad239.add ((x8_1).toNat * 3)).off + 1, none⟩ = some (.int .i64 ((rd_T51 l1_1 x8_1).f1)) ∧ w'.cell? ⟨(ad239.add ((x8_1).toNat * 3)).block, (ad239.add ((x8_1).toNat * 3)).off + 2, none⟩ = some (.int .i64 ((rd_T51 l1_1 x8_1).f2))) (ds := []) #[n_, n_, n_, n_, n_, n_, n_, n_, n_, n_, n_, n_, n_, n_, n_, n_, n_, n_, n_, n_, n_, n_, n_, n_, n_] (by kernel_rfl) rfl rfl ⟨(blk_cell BK234.out 0).trans rfl, (blk_cell BK234.out 1).trans rfl, ((HB.out.cell (World.block_lt_of_cell? w _ hw239_0)).trans hw239_0), ((HB.out.cell (World.block_lt_of_cell? w _ hw239_1)).trans hw239_1), ((HB.out.cell (World.block_lt_of_cell? w _ hw239_2)).trans hw239_2)⟩ (fun hHeld => ?_); refine with_tabW cohousingref26_shape.tab17 cohousingref26_shape.bits17 (fun HT_ HW_ => ?_)
         generalize wr.drew = w41 at BK233 BK234 HB hx239_0 hx239_1 hx239_2 hHeld ⊢
         refine pu_ 0 49 (w_ 25 1) rfl HT_ ?_
         refine pu_ 2 51 (w_ 25 5) rfl HT_ ?_
         refine ta_ 1 50 (w_ 25 7) rfl HT_ HW_ hHeld (by rintro w' ⟨s0, s1, s2, s3, s4⟩; go_simp; with_reducible rfl) ?_
         refine pu_ 3 52 (w_ 25 15) rfl HT_ ?_
         refine pu_ 4 53 (w_ 25 31) rfl HT_ ?_
         refine ta_ 5 54 (w_ 25 63) rfl HT_ HW_ hHeld (by rintro w' ⟨s0, s1, s2, s3, s4⟩; go_simp; with_reducible rfl) ?_
         refine pu_ 6 55 (w_ 25 127) rfl HT_ ?_
         refine pu_ 7 56 (w_ 25 255) rfl HT_ ?_
         refine pn_ 8 57 (w_ 25 511) rfl HT_ ?_
         refine pn_ 9 58 (w_ 25 1023) rfl HT_ ?_
         refine pn_ 10 59 (w_ 25 2047) rfl HT_ ?_
         refine pn_ 11 60 (w_ 25 4095) rfl HT_ ?_
         refine pn_ 12 61 (w_ 25 8191) rfl HT_ ?_
         refine pn_ 13 62 (w_ 25 16383) rfl HT_ ?_
         refine pn_ 14 63 (w_ 25 32767) rfl HT_ ?_
         refine pn_ 15 64 (w_ 25 65535) rfl HT_ ?_
         refine pn_ 16 65 (w_ 25 131071) rfl HT_ ?_
         refine pn_ 17 66 (w_ 25 262143) rfl HT_ ?_
         refine pn_ 18 67 (w_ 25 524287) rfl HT_ ?_
         refine pn_ 19 68 (w_ 25 1048575) rfl HT_ ?_
         refine pn_ 20 69 (w_ 25 2097151) rfl HT_ ?_
         refine pn_ 21 70 (w_ 25 4194303) rfl HT_ ?_
         refine pn_ 22 71 (w_ 25 8388607) rfl HT_ ?_
         refine pn_ 23 72 (w_ 25 16777215) rfl HT_ ?_
         refine pu_ 24 73 (w_ 25 33554431) rfl HT_ ?_
         refine done_ (done_of HT_.out (by kernel_rfl)) ?_
         try go_wp2
         go_ret
         exact ⟨ew_, by repeat (first | (with_reducible first | exact HB.out | apply below_alloc | apply pw_below_drewN | apply below_drew1 | refine below_set ?_ GE233.out | refine below_set ?_ GE234.out) | exact HB.out)⟩
        ·rw [if_neg c40] at H
         have c40b0 : (((rd_T51 l1_1 x8_1).f1) == 0) = false := beq_eq_false_iff_ne.mpr c40
         have c40b1 : (((rd_T51 l1_1 x8_1).f1) != 0) = true := bne_iff_ne.mpr c40
         by_cases c42 : (l1_1.length : Int) = 0
         ·rw [if_pos c42] at H
          exact absurd H (by simp)
         ·rw [if_neg c42] at H
          have c42b0 : ((l1_1.length : Int) == 0) = false := beq_eq_false_iff_ne.mpr c42
          have c42b1 : ((l1_1.length : Int) != 0) = true := bne_iff_ne.mpr c42
          have c42b2 : ¬ (l1_1 = []) := fun h_ => c42 (by rw [h_]; rfl)
          obtain ⟨ji43, hji43⟩ : ∃ j_ : Int, (Int.tmod (wrap64 (x8_1 + 1)) (l1_1.length : Int)) = j_ := ⟨_, rfl⟩
          replace H : (if 0 ≤ (ji43) then (if (ji43) < (l1_1.length : Int) then (if ((rd_T51 l1_1 x8_1).f2) = ((rd_T51 l1_1 (ji43)).f1) then (cohousingref26_shape.l1 k1 (l1_1.length : Int) (wrap64 (x8_1 + 1)) false l1_1) else (some false)) else (none)) else (none)) = some r := by first | (rw [hji43] at H; exact H) | (simp only [hji43] at H ⊢; exact H)
          by_cases c44 : 0 ≤ (ji43)
          ·rw [if_pos c44] at H
           have c44b0 : decide (0 ≤ (ji43)) = true := decide_eq_true c44
           clear c44
           by_cases c45 : (ji43) < (l1_1.length : Int)
           ·rw [if_pos c45] at H
            have c45b0 : decide ((ji43) < (l1_1.length : Int)) = true := decide_eq_true c45
            clear c45
            by_cases c46 : ((rd_T51 l1_1 x8_1).f2) = ((rd_T51 l1_1 (ji43)).f1)
            ·rw [if_pos c46] at H
             have c46b0 : (((rd_T51 l1_1 x8_1).f2) == ((rd_T51 l1_1 (ji43)).f1)) = true := beq_iff_eq.mpr c46
             have c46b1 : (((rd_T51 l1_1 x8_1).f2) != ((rd_T51 l1_1 (ji43)).f1)) = false := bne_eq_false_iff_eq.mpr c46
             clear c46
             have H' := Aside0.mk H
             clear H
             try go_wp2
             have n0_ := Aside0.mk (blk_drew BK233.out)
             have n1_ := Aside0.mk (blk_drew BK234.out)
             have n2_ := Aside0.mk (below_drew1 HB.out)
             clear BK233
             clear BK234
             clear HB
             have BK233 := n0_
             have BK234 := n1_
             have HB := n2_
             clear n0_ n1_ n2_
             have p239 : 0 ≤ (x8_1 : Int) := od_
             have q239 : x8_1 < (l1_1.length : Int) := od_
             obtain ⟨ad239, e239, hx239_0, hx239_1, hx239_2⟩ := at_T51 HR1_1.out x8_1 p239 q239
             have hw239_2 := hx239_2
             have hw239_1 := hx239_1
             have hw239_0 := hx239_0
             cases e239
             replace hx239_0 := (HB.out.cell (World.block_lt_of_cell? w _ hx239_0)).trans hx239_0
             replace hx239_1 := (HB.out.cell (World.block_lt_of_cell? w _ hx239_1)).trans hx239_1
             replace hx239_2 := (HB.out.cell (World.block_lt_of_cell? w _ hx239_2)).trans hx239_2
             replace p239 := eq_true p239
             replace q239 := eq_true q239
             have p240 : 0 ≤ (x8_1 : Int) := od_
             have q240 : x8_1 < (l1_1.length : Int) := od_
             obtain ⟨ad240, e240, hx240_0, hx240_1, hx240_2⟩ := at_T51 HR1_1.out x8_1 p240 q240
             have hw240_2 := hx240_2
             have hw240_1 := hx240_1
             have hw240_0 := hx240_0
             obtain rfl : ad239 = ad240 := (by injection e240)
             replace hx240_0 := (HB.out.cell (World.block_lt_of_cell? w _ hx240_0)).trans hx240_0
             replace hx240_1 := (HB.out.cell (World.block_lt_of_cell? w _ hx240_1)).trans hx240_1
             replace hx240_2 := (HB.out.cell (World.block_lt_of_cell? w _ hx240_2)).trans hx240_2
             replace p240 := eq_true p240
             replace q240 := eq_true q240
             have p241 : 0 ≤ ((ji43) : Int) := od_
             have q241 : (ji43) < (l1_1.length : Int) := od_
             obtain ⟨ad241, e241, hx241_0, hx241_1, hx241_2⟩ := at_T51 HR1_1.out (ji43) p241 q241
             have hw241_2 := hx241_2
             have hw241_1 := hx241_1
             have hw241_0 := hx241_0
             obtain rfl : ad239 = ad241 := (by injection e241)
             replace hx241_0 := (HB.out.cell (World.block_lt_of_cell? w _ hx241_0)).trans hx241_0
             replace hx241_1 := (HB.out.cell (World.block_lt_of_cell? w _ hx241_1)).trans hx241_1
             replace hx241_2 := (HB.out.cell (World.block_lt_of_cell? w _ hx241_2)).trans hx241_2
             replace p241 := eq_true p241
             replace q241 := eq_true q241
             refine start_ (n := 25) (S := fun w' => w'.cell? ⟨gb234, 0, none⟩ = some (.bool false) ∧ w'.cell? ⟨gb234, 1, none⟩ = some (.slice (some ad239) l1_1.length c1_1) ∧ w'.cell? (ad239.add ((x8_1).toNat * 3)) = some (.int .i64 ((rd_T51 l1_1 x8_1).f0)) ∧ w'.cell? ⟨(ad239.add ((x8_1).toNat * 3)).block, (ad239.add ((x8_1).toNat * 3)).off + 1, none⟩ = some (.int .i64 ((rd_T51 l1_1 x8_1).f1)) ∧ w'.cell? ⟨(ad239.add ((x8_1).toNat * 3)).block, (ad239.add ((x8_1).toNat * 3)).off + 2, none⟩ = some (.int .i64 ((rd_T51 l1_1 x8_1).f2)) ∧ w'.cell? (ad239.add ((x8_1).toNat * 3)) = some (.int .i64 ((rd_T51 l1_1 x8_1).f0)) ∧ w'.cell? ⟨(ad239.add ((x8_1).toNat * 3)).block, (ad239.add ((x8_1).toNat * 3)).off + 1, none⟩ = some (.int .i64 ((rd_T51 l1_1 x8_1).f1)) ∧ w'.cell? ⟨(ad239.add ((x8_1).toNat * 3)).block, (ad239.add ((x8_1).toNat * 3)).off + 2, none⟩ = some (.int .i64 ((rd_T51 l1_1 x8_1).f2)) ∧ w'.cell? (ad239.add (((ji43)).toNat * 3)) = some (.int .i64 ((rd_T51 l1_1 (ji43)).f0)) ∧ w'.cell? ⟨(ad239.add (((ji43)).toNat * 3)).block, (ad239.add (((ji43)).toNat * 3)).off + 1, none⟩ = some (.int .i64 ((rd_T51 l1_1 (ji43)).f1)) ∧ w'.cell? ⟨(ad239.add (((ji43)).toNat * 3)).block, (ad239.add (((ji43)).toNat * 3)).off + 2, none⟩ = some (.int .i64 ((rd_T51 l1_1 (ji43)).f2))) (ds := []) #[n_, n_, n_, n_, n_, n_, n_, n_, n_, n_, n_, n_, n_, n_, n_, n_, n_, n_, n_, n_, n_, n_, n_, n_, n_] (by kernel_rfl) rfl rfl ⟨(blk_cell BK234.out 0).trans rfl, (blk_cell BK234.out 1).trans rfl, ((HB.out.cell (World.block_lt_of_cell? w _ hw239_0)).trans hw239_0), ((HB.out.cell (World.block_lt_of_cell? w _ hw239_1)).trans hw239_1), ((HB.out.cell (World.block_lt_of_cell? w _ hw239_2)).trans hw239_2), ((HB.out.cell (World.block_lt_of_cell? w _ hw240_0)).trans hw240_0), ((HB.out.cell (World.block_lt_of_cell? w _ hw240_1)).trans hw240_1), ((HB.out.cell (World.block_lt_of_cell? w _ hw240_2)).trans hw240_2), ((HB.out.cell (World.block_lt_of_cell? w _ hw241_0)).trans hw241_0), ((HB.out.cell (World.block_lt_of_cell? w _ hw241_1)).trans hw241_1), ((HB.out.cell (World.block_lt_of_cell? w _ hw241_2)).trans hw241_2)⟩ (fun hHeld => ?_); refine with_tabW cohousingref26_shape.tab17 cohousingref26_shape.bits17 (fun HT_ HW_ => ?_)
             generalize wr.drew = w47 at BK233 BK234 HB hx239_0 hx239_1 hx239_2 hx240_0 hx240_1 hx240_2 hx241_0 hx241_1 hx241_2 hHeld ⊢
             refine pu_ 0 49 (w_ 25 1) rfl HT_ ?_
             refine pu_ 2 51 (w_ 25 5) rfl HT_ ?_
             refine ta_ 1 50 (w_ 25 7) rfl HT_ HW_ hHeld (by rintro w' ⟨s0, s1, s2, s3, s4, s5, s6, s7, s8, s9, s10⟩; go_simp; with_reducible rfl) ?_
             refine pu_ 3 52 (w_ 25 15) rfl HT_ ?_
             refine pu_ 4 53 (w_ 25 31) rfl HT_ ?_
             refine ta_ 5 54 (w_ 25 63) rfl HT_ HW_ hHeld (by rintro w' ⟨s0, s1, s2, s3, s4, s5, s6, s7, s8, s9, s10⟩; go_simp; with_reducible rfl) ?_
             refine pu_ 6 55 (w_ 25 127) rfl HT_ ?_
             refine pu_ 7 56 (w_ 25 255) rfl HT_ ?_
             refine pu_ 8 57 (w_ 25 511) rfl HT_ ?_
             refine pu_ 10 59 (w_ 25 1535) rfl HT_ ?_
             refine pu_ 14 63 (w_ 25 17919) rfl HT_ ?_
             refine pu_ 16 65 (w_ 25 83455) rfl HT_ ?_
             refine pu_ 17 66 (w_ 25 214527) rfl HT_ ?_
             refine pu_ 18 67 (w_ 25 476671) rfl HT_ ?_
             refine pu_ 19 68 (w_ 25 1000959) rfl HT_ ?_
             refine ta_ 9 58 (w_ 25 1001471) rfl HT_ HW_ hHeld (by rintro w' ⟨s0, s1, s2, s3, s4, s5, s6, s7, s8, s9, s10⟩; go_simp; with_reducible rfl) ?_
             refine pu_ 11 60 (w_ 25 1003519) rfl HT_ ?_
             refine pu_ 12 61 (w_ 25 1007615) rfl HT_ ?_
             refine ta_ 13 62 (w_ 25 1015807) rfl HT_ HW_ hHeld (by rintro w' ⟨s0, s1, s2, s3, s4, s5, s6, s7, s8, s9, s10⟩; go_simp; with_reducible rfl) ?_
             refine ta_ 15 64 (w_ 25 1048575) rfl HT_ HW_ hHeld (by rintro w' ⟨s0, s1, s2, s3, s4, s5, s6, s7, s8, s9, s10⟩; go_simp; with_reducible rfl) ?_
             refine pu_ 20 69 (w_ 25 2097151) rfl HT_ ?_
             refine pu_ 21 70 (w_ 25 4194303) rfl HT_ ?_
             refine ta_ 22 71 (w_ 25 8388607) rfl HT_ HW_ hHeld (by rintro w' ⟨s0, s1, s2, s3, s4, s5, s6, s7, s8, s9, s10⟩; go_simp; with_reducible rfl) ?_
             refine pu_ 23 72 (w_ 25 16777215) rfl HT_ ?_
             refine pu_ 24 73 (w_ 25 33554431) rfl HT_ ?_
             refine done_ (done_of HT_.out (by kernel_rfl)) ?_
             try go_wp2
             go_roundg k1
             case measure => have := HK1.out; omega
             case rel => exact ⟨(wrap64 (x8_1 + 1)), sd_, H', ⟨by have := HK1.out; omega⟩, ⟨by (with_reducible repeat (first | refine blk_drewN ?_ _ | refine blk_drew ?_ | refine blk_alloc ?_ _)); exact BK233.out⟩, ⟨by (with_reducible repeat (first | refine blk_drewN ?_ _ | refine blk_drew ?_ | refine blk_alloc ?_ _)); exact BK234.out⟩, ⟨by repeat (first | (with_reducible first | exact HB.out | apply below_alloc | apply pw_below_drewN | apply below_drew1 | refine below_set ?_ GE233.out | refine below_set ?_ GE234.out) | exact HB.out)⟩⟩
            ·rw [if_neg c46] at H
             have c46b0 : (((rd_T51 l1_1 x8_1).f2) == ((rd_T51 l1_1 (ji43)).f1)) = false := beq_eq_false_iff_ne.mpr c46
             have c46b1 : (((rd_T51 l1_1 x8_1).f2) != ((rd_T51 l1_1 (ji43)).f1)) = true := bne_iff_ne.mpr c46
             obtain rfl := Option.some.inj H
             try go_wp2
             have n0_ := Aside0.mk (blk_drew BK233.out)
             have n1_ := Aside0.mk (blk_drew BK234.out)
             have n2_ := Aside0.mk (below_drew1 HB.out)
             clear BK233
             clear BK234
             clear HB
             have BK233 := n0_
             have BK234 := n1_
             have HB := n2_
             clear n0_ n1_ n2_
             have p239 : 0 ≤ (x8_1 : Int) := od_
             have q239 : x8_1 < (l1_1.length : Int) := od_
             obtain ⟨ad239, e239, hx239_0, hx239_1, hx239_2⟩ := at_T51 HR1_1.out x8_1 p239 q239
             have hw239_2 := hx239_2
             have hw239_1 := hx239_1
             have hw239_0 := hx239_0
             cases e239
             replace hx239_0 := (HB.out.cell (World.block_lt_of_cell? w _ hx239_0)).trans hx239_0
             replace hx239_1 := (HB.out.cell (World.block_lt_of_cell? w _ hx239_1)).trans hx239_1
             replace hx239_2 := (HB.out.cell (World.block_lt_of_cell? w _ hx239_2)).trans hx239_2
             replace p239 := eq_true p239
             replace q239 := eq_true q239
             have p240 : 0 ≤ (x8_1 : Int) := od_
             have q240 : x8_1 < (l1_1.length : Int) := od_
             obtain ⟨ad240, e240, hx240_0, hx240_1, hx240_2⟩ := at_T51 HR1_1.out x8_1 p240 q240
             have hw240_2 := hx240_2
             have hw240_1 := hx240_1
             have hw240_0 := hx240_0
             obtain rfl : ad239 = ad240 := (by injection e240)
             replace hx240_0 := (HB.out.cell (World.block_lt_of_cell? w _ hx240_0)).trans hx240_0
             replace hx240_1 := (HB.out.cell (World.block_lt_of_cell? w _ hx240_1)).trans hx240_1
             replace hx240_2 := (HB.out.cell (World.block_lt_of_cell? w _ hx240_2)).trans hx240_2
             replace p240 := eq_true p240
             replace q240 := eq_true q240
             have p241 : 0 ≤ ((ji43) : Int) := od_
             have q241 : (ji43) < (l1_1.length : Int) := od_
             obtain ⟨ad241, e241, hx241_0, hx241_1, hx241_2⟩ := at_T51 HR1_1.out (ji43) p241 q241
             have hw241_2 := hx241_2
             have hw241_1 := hx241_1
             have hw241_0 := hx241_0
             obtain rfl : ad239 = ad241 := (by injection e241)
             replace hx241_0 := (HB.out.cell (World.block_lt_of_cell? w _ hx241_0)).trans hx241_0
             replace hx241_1 := (HB.out.cell (World.block_lt_of_cell? w _ hx241_1)).trans hx241_1
             replace hx241_2 := (HB.out.cell (World.block_lt_of_cell? w _ hx241_2)).trans hx241_2
             replace p241 := eq_true p241
             replace q241 := eq_true q241
             refine start_ (n := 25) (S := fun w' => w'.cell? ⟨gb234, 0, none⟩ = some (.bool false) ∧ w'.cell? ⟨gb234, 1, none⟩ = some (.slice (some ad239) l1_1.length c1_1) ∧ w'.cell? (ad239.add ((x8_1).toNat * 3)) = some (.int .i64 ((rd_T51 l1_1 x8_1).f0)) ∧ w'.cell? ⟨(ad239.add ((x8_1).toNat * 3)).block, (ad239.add ((x8_1).toNat * 3)).off + 1, none⟩ = some (.int .i64 ((rd_T51 l1_1 x8_1).f1)) ∧ w'.cell? ⟨(ad239.add ((x8_1).toNat * 3)).block, (ad239.add ((x8_1).toNat * 3)).off + 2, none⟩ = some (.int .i64 ((rd_T51 l1_1 x8_1).f2)) ∧ w'.cell? (ad239.add ((x8_1).toNat * 3)) = some (.int .i64 ((rd_T51 l1_1 x8_1).f0)) ∧ w'.cell? ⟨(ad239.add ((x8_1).toNat * 3)).block, (ad239.add ((x8_1).toNat * 3)).off + 1, none⟩ = some (.int .i64 ((rd_T51 l1_1 x8_1).f1)) ∧ w'.cell? ⟨(ad239.add ((x8_1).toNat * 3)).block, (ad239.add ((x8_1).toNat * 3)).off + 2, none⟩ = some (.int .i64 ((rd_T51 l1_1 x8_1).f2)) ∧ w'.cell? (ad239.add (((ji43)).toNat * 3)) = some (.int .i64 ((rd_T51 l1_1 (ji43)).f0)) ∧ w'.cell? ⟨(ad239.add (((ji43)).toNat * 3)).block, (ad239.add (((ji43)).toNat * 3)).off + 1, none⟩ = some (.int .i64 ((rd_T51 l1_1 (ji43)).f1)) ∧ w'.cell? ⟨(ad239.add (((ji43)).toNat * 3)).block, (ad239.add (((ji43)).toNat * 3)).off + 2, none⟩ = some (.int .i64 ((rd_T51 l1_1 (ji43)).f2))) (ds := []) #[n_, n_, n_, n_, n_, n_, n_, n_, n_, n_, n_, n_, n_, n_, n_, n_, n_, n_, n_, n_, n_, n_, n_, n_, n_] (by kernel_rfl) rfl rfl ⟨(blk_cell BK234.out 0).trans rfl, (blk_cell BK234.out 1).trans rfl, ((HB.out.cell (World.block_lt_of_cell? w _ hw239_0)).trans hw239_0), ((HB.out.cell (World.block_lt_of_cell? w _ hw239_1)).trans hw239_1), ((HB.out.cell (World.block_lt_of_cell? w _ hw239_2)).trans hw239_2), ((HB.out.cell (World.block_lt_of_cell? w _ hw240_0)).trans hw240_0), ((HB.out.cell (World.block_lt_of_cell? w _ hw240_1)).trans hw240_1), ((HB.out.cell (World.block_lt_of_cell? w _ hw240_2)).trans hw240_2), ((HB.out.cell (World.block_lt_of_cell? w _ hw241_0)).trans hw241_0), ((HB.out.cell (World.block_lt_of_cell? w _ hw241_1)).trans hw241_1), ((HB.out.cell (World.block_lt_of_cell? w _ hw241_2)).trans hw241_2)⟩ (fun hHeld => ?_); refine with_tabW cohousingref26_shape.tab17 cohousingref26_shape.bits17 (fun HT_ HW_ => ?_)
             generalize wr.drew = w48 at BK233 BK234 HB hx239_0 hx239_1 hx239_2 hx240_0 hx240_1 hx240_2 hx241_0 hx241_1 hx241_2 hHeld ⊢
             refine pu_ 0 49 (w_ 25 1) rfl HT_ ?_
             refine pu_ 2 51 (w_ 25 5) rfl HT_ ?_
             refine ta_ 1 50 (w_ 25 7) rfl HT_ HW_ hHeld (by rintro w' ⟨s0, s1, s2, s3, s4, s5, s6, s7, s8, s9, s10⟩; go_simp; with_reducible rfl) ?_
             refine pu_ 3 52 (w_ 25 15) rfl HT_ ?_
             refine pu_ 4 53 (w_ 25 31) rfl HT_ ?_
             refine ta_ 5 54 (w_ 25 63) rfl HT_ HW_ hHeld (by rintro w' ⟨s0, s1, s2, s3, s4, s5, s6, s7, s8, s9, s10⟩; go_simp; with_reducible rfl) ?_
             refine pu_ 6 55 (w_ 25 127) rfl HT_ ?_
             refine pu_ 7 56 (w_ 25 255) rfl HT_ ?_
             refine pu_ 8 57 (w_ 25 511) rfl HT_ ?_
             refine pu_ 10 59 (w_ 25 1535) rfl HT_ ?_
             refine pu_ 14 63 (w_ 25 17919) rfl HT_ ?_
             refine pu_ 16 65 (w_ 25 83455) rfl HT_ ?_
             refine pu_ 17 66 (w_ 25 214527) rfl HT_ ?_
             refine pu_ 18 67 (w_ 25 476671) rfl HT_ ?_
             refine pu_ 19 68 (w_ 25 1000959) rfl HT_ ?_
             refine ta_ 9 58 (w_ 25 1001471) rfl HT_ HW_ hHeld (by rintro w' ⟨s0, s1, s2, s3, s4, s5, s6, s7, s8, s9, s10⟩; go_simp; with_reducible rfl) ?_
             refine pu_ 11 60 (w_ 25 1003519) rfl HT_ ?_
             refine pu_ 12 61 (w_ 25 1007615) rfl HT_ ?_
             refine ta_ 13 62 (w_ 25 1015807) rfl HT_ HW_ hHeld (by rintro w' ⟨s0, s1, s2, s3, s4, s5, s6, s7, s8, s9, s10⟩; go_simp; with_reducible rfl) ?_
             refine ta_ 15 64 (w_ 25 1048575) rfl HT_ HW_ hHeld (by rintro w' ⟨s0, s1, s2, s3, s4, s5, s6, s7, s8, s9, s10⟩; go_simp; with_reducible rfl) ?_
             refine pu_ 20 69 (w_ 25 2097151) rfl HT_ ?_
             refine pu_ 21 70 (w_ 25 4194303) rfl HT_ ?_
             refine ta_ 22 71 (w_ 25 8388607) rfl HT_ HW_ hHeld (by rintro w' ⟨s0, s1, s2, s3, s4, s5, s6, s7, s8, s9, s10⟩; go_simp; with_reducible rfl) ?_
             refine pu_ 23 72 (w_ 25 16777215) rfl HT_ ?_
             refine pu_ 24 73 (w_ 25 33554431) rfl HT_ ?_
             refine done_ (done_of HT_.out (by kernel_rfl)) ?_
             try go_wp2
             go_ret
             exact ⟨by first | rfl | (simp [errW_none, errW_some] <;> rfl) | (simp only [← hji43]; first | rfl | (simp [errW_none, errW_some] <;> rfl)) | (simp [*, errW_none, errW_some] <;> rfl), by repeat (first | (with_reducible first | exact HB.out | apply below_alloc | apply pw_below_drewN | apply below_drew1 | refine below_set ?_ GE233.out | refine below_set ?_ GE234.out) | exact HB.out)⟩
           ·rw [if_neg c45] at H
            exact absurd H (by simp)
          ·rw [if_neg c44] at H
           exact absurd H (by simp)
       ·rw [if_neg c39] at H
        exact absurd H (by simp)
      ·rw [if_neg c38] at H
       exact absurd H (by simp)
     ·rw [if_neg c37] at H
      have c37b0 : decide (x8_1 < (l1_1.length : Int)) = false := decide_eq_false c37
      clear c37
      obtain rfl := Option.some.inj H
      go_wp2
      go_ret
      exact ⟨ew_, by repeat (first | (with_reducible first | exact HB.out | apply below_alloc | apply pw_below_drewN | apply below_drew1 | refine below_set ?_ GE233.out | refine below_set ?_ GE234.out) | exact HB.out)⟩
end
end Go.Proofs.Ytocbiggglnpeoaa.P
end
