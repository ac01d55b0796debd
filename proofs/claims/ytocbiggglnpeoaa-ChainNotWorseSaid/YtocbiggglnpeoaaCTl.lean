/- Part 12 of the base that the seat's proofs share: words, walks and plain laws. -/
import Derived.ArgAppend
import Derived.Below
import Derived.BigQuiet
import Derived.ChangeOld
import Derived.ChangeSlices
import Derived.Deep.AppendLies
import Derived.Deep.CutBlock
import Derived.Deep.DeepCutAuto
import Derived.Deep.Draws
import Derived.Deep.LoopGhost
import Derived.Deep.OwnRows
import Derived.Deep.QuietTactic
import Derived.Deep.RegionHeld3
import Derived.Deep.Slices
import Derived.KernelRfl
import Derived.Laws.BitsLemmas
import Derived.Laws.BytesArg
import Derived.Laws.IdiomCopy
import Derived.Laws.MakeOwn
import Derived.Laws.OwnMore
import Derived.Laws.Rows
import Derived.Laws.Slices
import Derived.Laws.StructEq
import Derived.Lib.AppendStr
import Derived.Lib.BufferOwn
import Derived.Lib.ConvBytes
import Derived.Lib.SliceRun
import Derived.LoopIn
import Derived.LoopNIn
import Derived.Maps.AppendAt
import Derived.Maps.Own
import Derived.OpenShut
import Derived.OrdersHeld
import Derived.OwnWalk
import Derived.OwnWalkIn
import Derived.ProofKit
import Derived.RangeFuncBound
import Derived.RangeFuncCalls
import Derived.RangeFuncLeaves
import Derived.RangeFuncNested
import Derived.RowKit
import Derived.RowKit3
import Derived.ShutString
import Derived.SizedLaws
import Derived.Tactics
import Derived.TacticsInMore
import Derived.Test.YtocbiggglnpeoaaProg
import Derived.WalkKit
import Derived.WideLaws
import Derived.Test.YtocbiggglnpeoaaCTk
set_option linter.unusedVariables false
set_option linter.unusedSimpArgs false
section
namespace Go.Proofs.Ytocbiggglnpeoaa.P
open Go.RowKit Go.Proofs.YtocbiggglnpeoaaW.PrintWords Go.Proofs.YtocbiggglnpeoaaW.PrintLast Go.Proofs.YtocbiggglnpeoaaW.PrintMore
attribute [local go_sem] max2_int min2_int max_two min_two max_three min_three max_four min_four
set_option linter.unusedVariables false
set_option linter.unusedSimpArgs false
set_option maxHeartbeats 8000000
set_option maxRecDepth 100000
section
def cohousingref26_Replies.l0 : Nat → List (S55) → Int → Option (Bool)
 | 0, _, _ => none
 | k + 1, x0, x3 => if x3 < (x0.length : Int) then (if 0 ≤ x3 then (if ((rd_T55 x0 x3).f0) < 1 then (some false) else (if ((rd_T55 x0 x3).f0) > 3 then (some false) else (if ((rd_T55 x0 x3).f1) < 1 then (some false) else (if ((rd_T55 x0 x3).f1) > 64 then (some false) else (if ((rd_T55 x0 x3).f2) < 0 then (some false) else (if ((rd_T55 x0 x3).f2) > 36524 then (some false) else (if x3 > 0 then (if 0 ≤ (wrap64 (x3 - 1)) then (if (wrap64 (x3 - 1)) < (x0.length : Int) then (if ((rd_T55 x0 x3).f2) < ((rd_T55 x0 (wrap64 (x3 - 1))).f2) then (some false) else (cohousingref26_Replies.l0 k x0 (wrap64 (x3 + 1)))) else (none)) else (none)) else (cohousingref26_Replies.l0 k x0 (wrap64 (x3 + 1)))))))))) else (none)) else (some true)
def cohousingref26_Replies.f (k : Nat) (l0 : List (S55)) : Option (Bool) := if (l0.length : Int) > 1000 then (some false) else (cohousingref26_Replies.l0 k l0 0)
theorem cohousingref26_Replies.calls (k : Nat) (A0 : Option Addr) (c0 : Nat) (l0 : List (S55)) (r : Bool) (w : World) (hr0 : Kd.C k55 w A0 l0.length l0) (hc0 : l0.length ≤ c0) (h : cohousingref26_Replies.f k l0 = some r) :
  Calls Try.prog 36 #[.slice A0 l0.length c0] w fun e w' => e = .returned (.bool r) ∧ Below w.heap.size w w' := by
 have hu55 := Try.underlying55
 have HR0 := Aside0.mk hr0
 have HC0 := Aside0.mk hc0
 clear hr0 hc0
 have HB := Aside0.mk (Below.refl w.heap.size w)
 have H : (if (l0.length : Int) > 1000 then (some false) else (cohousingref26_Replies.l0 k l0 0)) = some r := h
 clear h
 by_cases c2 : (l0.length : Int) > 1000
 ·rw [if_pos c2] at H
  have c2b0 : decide (1000 < (l0.length : Int)) = true := decide_eq_true c2
  have c2b1 : decide (1000 < l0.length) = true := decide_eq_true (by omega)
  clear c2
  obtain rfl := Option.some.inj H
  go_enter Try.func36, Try.ntmps36
  go_wp2
  repeat (go_quiet (fail); try go_wp2)
  go_ret
  exact ⟨ew_, by repeat (first | (with_reducible first | exact HB.out | apply below_alloc | apply pw_below_drewN | apply below_drew1) | exact HB.out)⟩
 ·rw [if_neg c2] at H
  have c2b0 : decide (1000 < (l0.length : Int)) = false := decide_eq_false c2
  have c2b1 : decide (1000 < l0.length) = false := decide_eq_false (by omega)
  clear c2
  have H' := Aside0.mk H
  clear H
  go_enter Try.func36, Try.ntmps36
  go_wp2
  repeat (go_quiet (fail); try go_wp2)
  go_loopg [3] k (fun kq v3 w' => ∃ (x3_1 : Int), v3 = .int .i64 x3_1 ∧ Aside0 (cohousingref26_Replies.l0 kq l0 x3_1 = some r) ∧ Aside0 (kq ≤ k) ∧ Aside0 (Below w.heap.size w w'))
  case atStart => exact ⟨(0), sd_, H', ⟨Nat.le_refl _⟩, ⟨by repeat (first | (with_reducible first | exact HB.out | apply below_alloc | apply pw_below_drewN | apply below_drew1) | exact HB.out)⟩⟩
  case round =>
   clear H'
   try clear c2
   try clear c2b0
   try clear c2b1
   try clear p2
   obtain ⟨x3_1, rfl, HA, HK1, HB⟩ := hrel
   cases gk with
   | zero => exact absurd HA.out (by simp [cohousingref26_Replies.l0])
   | succ k1 =>
    have H := HA.out
    clear HA
    simp only [cohousingref26_Replies.l0] at H
    by_cases c3 : x3_1 < (l0.length : Int)
    ·rw [if_pos c3] at H
     have c3b0 : decide (x3_1 < (l0.length : Int)) = true := decide_eq_true c3
     clear c3
     by_cases c4 : 0 ≤ x3_1
     ·rw [if_pos c4] at H
      have c4b0 : decide (0 ≤ x3_1) = true := decide_eq_true c4
      clear c4
      by_cases c5 : ((rd_T55 l0 x3_1).f0) < 1
      ·rw [if_pos c5] at H
       have c5b0 : decide (((rd_T55 l0 x3_1).f0) < 1) = true := decide_eq_true c5
       clear c5
       obtain rfl := Option.some.inj H
       have p258 : 0 ≤ (x3_1 : Int) := od_
       have q258 : x3_1 < (l0.length : Int) := od_
       obtain ⟨ad258, e258, hx258_0, hx258_1, hx258_2⟩ := at_T55 HR0.out x3_1 p258 q258
       cases e258
       replace hx258_0 := (HB.out.cell (World.block_lt_of_cell? w _ hx258_0)).trans hx258_0
       replace hx258_1 := (HB.out.cell (World.block_lt_of_cell? w _ hx258_1)).trans hx258_1
       replace hx258_2 := (HB.out.cell (World.block_lt_of_cell? w _ hx258_2)).trans hx258_2
       replace p258 := eq_true p258
       replace q258 := eq_true q258
       go_wp2_with (first | ((with_reducible refine gate_dst (N := 4) rfl ?_); refine box_event ?hg (N := 4) ?hd (cs := #[.int .i64 0, .int .i64 0, .int .i64 0]) (t := 55) ?hr ?_; (case hd => rfl); (case hg => rfl); (case hr => first | (go_simp; done) | (go_simp; rfl)); intro gb259 hg w6 hbox hb; have n0_ := Aside0.mk (below_step (bb_ HB) hb); have n1_ := Aside0.mk (hbox); have n2_ := Aside0.mk ((by rw [hg]; exact (below_size (bb_ HB)) : w.heap.size ≤ gb259)); have n3_ := Aside0.mk ((by rw [hg]; exact (below_size (bb_ HB)) : w.heap.size ≤ gb259)); clear HB; have HB := n0_; have BK259 := n1_; have GW259 := n2_; have GE259 := n3_; clear n0_ n1_ n2_ n3_; clear hb hbox hg; have hcz7_0 : w6.cell? ⟨gb259, 0, none⟩ = some (.int .i64 0) := (blk_cell BK259.out 0).trans rfl; have hcz7_1 : w6.cell? ⟨gb259, 1, none⟩ = some (.int .i64 0) := (blk_cell BK259.out 1).trans rfl; have hcz7_2 : w6.cell? ⟨gb259, 2, none⟩ = some (.int .i64 0) := (blk_cell BK259.out 2).trans rfl; have hfz7_0 := blk_frozen BK259.out 0; have hfz7_1 := blk_frozen BK259.out 1; have hfz7_2 := blk_frozen BK259.out 2))
       repeat (go_quiet (first | ((with_reducible refine gate_dst (N := 4) rfl ?_); refine box_event ?hg (N := 4) ?hd (cs := #[.int .i64 0, .int .i64 0, .int .i64 0]) (t := 55) ?hr ?_; (case hd => rfl); (case hg => rfl); (case hr => first | (go_simp; done) | (go_simp; rfl)); intro gb259 hg w6 hbox hb; have n0_ := Aside0.mk (below_step (bb_ HB) hb); have n1_ := Aside0.mk (hbox); have n2_ := Aside0.mk ((by rw [hg]; exact (below_size (bb_ HB)) : w.heap.size ≤ gb259)); have n3_ := Aside0.mk ((by rw [hg]; exact (below_size (bb_ HB)) : w.heap.size ≤ gb259)); clear HB; have HB := n0_; have BK259 := n1_; have GW259 := n2_; have GE259 := n3_; clear n0_ n1_ n2_ n3_; clear hb hbox hg; have hcz7_0 : w6.cell? ⟨gb259, 0, none⟩ = some (.int .i64 0) := (blk_cell BK259.out 0).trans rfl; have hcz7_1 : w6.cell? ⟨gb259, 1, none⟩ = some (.int .i64 0) := (blk_cell BK259.out 1).trans rfl; have hcz7_2 : w6.cell? ⟨gb259, 2, none⟩ = some (.int .i64 0) := (blk_cell BK259.out 2).trans rfl; have hfz7_0 := blk_frozen BK259.out 0; have hfz7_1 := blk_frozen BK259.out 1; have hfz7_2 := blk_frozen BK259.out 2)); try go_wp2_with (first | ((with_reducible refine gate_dst (N := 4) rfl ?_); refine box_event ?hg (N := 4) ?hd (cs := #[.int .i64 0, .int .i64 0, .int .i64 0]) (t := 55) ?hr ?_; (case hd => rfl); (case hg => rfl); (case hr => first | (go_simp; done) | (go_simp; rfl)); intro gb259 hg w6 hbox hb; have n0_ := Aside0.mk (below_step (bb_ HB) hb); have n1_ := Aside0.mk (hbox); have n2_ := Aside0.mk ((by rw [hg]; exact (below_size (bb_ HB)) : w.heap.size ≤ gb259)); have n3_ := Aside0.mk ((by rw [hg]; exact (below_size (bb_ HB)) : w.heap.size ≤ gb259)); clear HB; have HB := n0_; have BK259 := n1_; have GW259 := n2_; have GE259 := n3_; clear n0_ n1_ n2_ n3_; clear hb hbox hg; have hcz7_0 : w6.cell? ⟨gb259, 0, none⟩ = some (.int .i64 0) := (blk_cell BK259.out 0).trans rfl; have hcz7_1 : w6.cell? ⟨gb259, 1, none⟩ = some (.int .i64 0) := (blk_cell BK259.out 1).trans rfl; have hcz7_2 : w6.cell? ⟨gb259, 2, none⟩ = some (.int .i64 0) := (blk_cell BK259.out 2).trans rfl; have hfz7_0 := blk_frozen BK259.out 0; have hfz7_1 := blk_frozen BK259.out 1; have hfz7_2 := blk_frozen BK259.out 2)))
       go_ret
       exact ⟨ew_, by repeat (first | (with_reducible first | exact HB.out | apply below_alloc | apply pw_below_drewN | apply below_drew1 | refine below_set ?_ GE259.out) | exact HB.out)⟩
      ·rw [if_neg c5] at H
       have c5b0 : decide (((rd_T55 l0 x3_1).f0) < 1) = false := decide_eq_false c5
       clear c5
       by_cases c8 : ((rd_T55 l0 x3_1).f0) > 3
       ·rw [if_pos c8] at H
        have c8b0 : decide (3 < ((rd_T55 l0 x3_1).f0)) = true := decide_eq_true c8
        clear c8
        obtain rfl := Option.some.inj H
        have p258 : 0 ≤ (x3_1 : Int) := od_
        have q258 : x3_1 < (l0.length : Int) := od_
        obtain ⟨ad258, e258, hx258_0, hx258_1, hx258_2⟩ := at_T55 HR0.out x3_1 p258 q258
        cases e258
        replace hx258_0 := (HB.out.cell (World.block_lt_of_cell? w _ hx258_0)).trans hx258_0
        replace hx258_1 := (HB.out.cell (World.block_lt_of_cell? w _ hx258_1)).trans hx258_1
        replace hx258_2 := (HB.out.cell (World.block_lt_of_cell? w _ hx258_2)).trans hx258_2
        replace p258 := eq_true p258
        replace q258 := eq_true q258
        go_wp2_with (first | ((with_reducible refine gate_dst (N := 4) rfl ?_); refine box_event ?hg (N := 4) ?hd (cs := #[.int .i64 0, .int .i64 0, .int .i64 0]) (t := 55) ?hr ?_; (case hd => rfl); (case hg => rfl); (case hr => first | (go_simp; done) | (go_simp; rfl)); intro gb259 hg w9 hbox hb; have n0_ := Aside0.mk (below_step (bb_ HB) hb); have n1_ := Aside0.mk (hbox); have n2_ := Aside0.mk ((by rw [hg]; exact (below_size (bb_ HB)) : w.heap.size ≤ gb259)); have n3_ := Aside0.mk ((by rw [hg]; exact (below_size (bb_ HB)) : w.heap.size ≤ gb259)); clear HB; have HB := n0_; have BK259 := n1_; have GW259 := n2_; have GE259 := n3_; clear n0_ n1_ n2_ n3_; clear hb hbox hg; have hcz10_0 : w9.cell? ⟨gb259, 0, none⟩ = some (.int .i64 0) := (blk_cell BK259.out 0).trans rfl; have hcz10_1 : w9.cell? ⟨gb259, 1, none⟩ = some (.int .i64 0) := (blk_cell BK259.out 1).trans rfl; have hcz10_2 : w9.cell? ⟨gb259, 2, none⟩ = some (.int .i64 0) := (blk_cell BK259.out 2).trans rfl; have hfz10_0 := blk_frozen BK259.out 0; have hfz10_1 := blk_frozen BK259.out 1; have hfz10_2 := blk_frozen BK259.out 2))
        repeat (go_quiet (first | ((with_reducible refine gate_dst (N := 4) rfl ?_); refine box_event ?hg (N := 4) ?hd (cs := #[.int .i64 0, .int .i64 0, .int .i64 0]) (t := 55) ?hr ?_; (case hd => rfl); (case hg => rfl); (case hr => first | (go_simp; done) | (go_simp; rfl)); intro gb259 hg w9 hbox hb; have n0_ := Aside0.mk (below_step (bb_ HB) hb); have n1_ := Aside0.mk (hbox); have n2_ := Aside0.mk ((by rw [hg]; exact (below_size (bb_ HB)) : w.heap.size ≤ gb259)); have n3_ := Aside0.mk ((by rw [hg]; exact (below_size (bb_ HB)) : w.heap.size ≤ gb259)); clear HB; have HB := n0_; have BK259 := n1_; have GW259 := n2_; have GE259 := n3_; clear n0_ n1_ n2_ n3_; clear hb hbox hg; have hcz10_0 : w9.cell? ⟨gb259, 0, none⟩ = some (.int .i64 0) := (blk_cell BK259.out 0).trans rfl; have hcz10_1 : w9.cell? ⟨gb259, 1, none⟩ = some (.int .i64 0) := (blk_cell BK259.out 1).trans rfl; have hcz10_2 : w9.cell? ⟨gb259, 2, none⟩ = some (.int .i64 0) := (blk_cell BK259.out 2).trans rfl; have hfz10_0 := blk_frozen BK259.out 0; have hfz10_1 := blk_frozen BK259.out 1; have hfz10_2 := blk_frozen BK259.out 2)); try go_wp2_with (first | ((with_reducible refine gate_dst (N := 4) rfl ?_); refine box_event ?hg (N := 4) ?hd (cs := #[.int .i64 0, .int .i64 0, .int .i64 0]) (t := 55) ?hr ?_; (case hd => rfl); (case hg => rfl); (case hr => first | (go_simp; done) | (go_simp; rfl)); intro gb259 hg w9 hbox hb; have n0_ := Aside0.mk (below_step (bb_ HB) hb); have n1_ := Aside0.mk (hbox); have n2_ := Aside0.mk ((by rw [hg]; exact (below_size (bb_ HB)) : w.heap.size ≤ gb259)); have n3_ := Aside0.mk ((by rw [hg]; exact (below_size (bb_ HB)) : w.heap.size ≤ gb259)); clear HB; have HB := n0_; have BK259 := n1_; have GW259 := n2_; have GE259 := n3_; clear n0_ n1_ n2_ n3_; clear hb hbox hg; have hcz10_0 : w9.cell? ⟨gb259, 0, none⟩ = some (.int .i64 0) := (blk_cell BK259.out 0).trans rfl; have hcz10_1 : w9.cell? ⟨gb259, 1, none⟩ = some (.int .i64 0) := (blk_cell BK259.out 1).trans rfl; have hcz10_2 : w9.cell? ⟨gb259, 2, none⟩ = some (.int .i64 0) := (blk_cell BK259.out 2).trans rfl; have hfz10_0 := blk_frozen BK259.out 0; have hfz10_1 := blk_frozen BK259.out 1; have hfz10_2 := blk_frozen BK259.out 2)))
        go_ret
        exact ⟨ew_, by repeat (first | (with_reducible first | exact HB.out | apply below_alloc | apply pw_below_drewN | apply below_drew1 | refine below_set ?_ GE259.out) | exact HB.out)⟩
       ·rw [if_neg c8] at H
        have c8b0 : decide (3 < ((rd_T55 l0 x3_1).f0)) = false := decide_eq_false c8
        clear c8
        by_cases c11 : ((rd_T55 l0 x3_1).f1) < 1
        ·rw [if_pos c11] at H
         have c11b0 : decide (((rd_T55 l0 x3_1).f1) < 1) = true := decide_eq_true c11
         clear c11
         obtain rfl := Option.some.inj H
         have p258 : 0 ≤ (x3_1 : Int) := od_
         have q258 : x3_1 < (l0.length : Int) := od_
         obtain ⟨ad258, e258, hx258_0, hx258_1, hx258_2⟩ := at_T55 HR0.out x3_1 p258 q258
         cases e258
         replace hx258_0 := (HB.out.cell (World.block_lt_of_cell? w _ hx258_0)).trans hx258_0
         replace hx258_1 := (HB.out.cell (World.block_lt_of_cell? w _ hx258_1)).trans hx258_1
         replace hx258_2 := (HB.out.cell (World.block_lt_of_cell? w _ hx258_2)).trans hx258_2
         replace p258 := eq_true p258
         replace q258 := eq_true q258
         go_wp2_with (first | ((with_reducible refine gate_dst (N := 4) rfl ?_); refine box_event ?hg (N := 4) ?hd (cs := #[.int .i64 0, .int .i64 0, .int .i64 0]) (t := 55) ?hr ?_; (case hd => rfl); (case hg => rfl); (case hr => first | (go_simp; done) | (go_simp; rfl)); intro gb259 hg w12 hbox hb; have n0_ := Aside0.mk (below_step (bb_ HB) hb); have n1_ := Aside0.mk (hbox); have n2_ := Aside0.mk ((by rw [hg]; exact (below_size (bb_ HB)) : w.heap.size ≤ gb259)); have n3_ := Aside0.mk ((by rw [hg]; exact (below_size (bb_ HB)) : w.heap.size ≤ gb259)); clear HB; have HB := n0_; have BK259 := n1_; have GW259 := n2_; have GE259 := n3_; clear n0_ n1_ n2_ n3_; clear hb hbox hg; have hcz13_0 : w12.cell? ⟨gb259, 0, none⟩ = some (.int .i64 0) := (blk_cell BK259.out 0).trans rfl; have hcz13_1 : w12.cell? ⟨gb259, 1, none⟩ = some (.int .i64 0) := (blk_cell BK259.out 1).trans rfl; have hcz13_2 : w12.cell? ⟨gb259, 2, none⟩ = some (.int .i64 0) := (blk_cell BK259.out 2).trans rfl; have hfz13_0 := blk_frozen BK259.out 0; have hfz13_1 := blk_frozen BK259.out 1; have hfz13_2 := blk_frozen BK259.out 2))
         repeat (go_quiet (first | ((with_reducible refine gate_dst (N := 4) rfl ?_); refine box_event ?hg (N := 4) ?hd (cs := #[.int .i64 0, .int .i64 0, .int .i64 0]) (t := 55) ?hr ?_; (case hd => rfl); (case hg => rfl); (case hr => first | (go_simp; done) | (go_simp; rfl)); intro gb259 hg w12 hbox hb; have n0_ := Aside0.mk (below_step (bb_ HB) hb); have n1_ := Aside0.mk (hbox); have n2_ := Aside0.mk ((by rw [hg]; exact (below_size (bb_ HB)) : w.heap.size ≤ gb259)); have n3_ := Aside0.mk ((by rw [hg]; exact (below_size (bb_ HB)) : w.heap.size ≤ gb259)); clear HB; have HB := n0_; have BK259 := n1_; have GW259 := n2_; have GE259 := n3_; clear n0_ n1_ n2_ n3_; clear hb hbox hg; have hcz13_0 : w12.cell? ⟨gb259, 0, none⟩ = some (.int .i64 0) := (blk_cell BK259.out 0).trans rfl; have hcz13_1 : w12.cell? ⟨gb259, 1, none⟩ = some (.int .i64 0) := (blk_cell BK259.out 1).trans rfl; have hcz13_2 : w12.cell? ⟨gb259, 2, none⟩ = some (.int .i64 0) := (blk_cell BK259.out 2).trans rfl; have hfz13_0 := blk_frozen BK259.out 0; have hfz13_1 := blk_frozen BK259.out 1; have hfz13_2 := blk_frozen BK259.out 2)); try go_wp2_with (first | ((with_reducible refine gate_dst (N := 4) rfl ?_); refine box_event ?hg (N := 4) ?hd (cs := #[.int .i64 0, .int .i64 0, .int .i64 0]) (t := 55) ?hr ?_; (case hd => rfl); (case hg => rfl); (case hr => first | (go_simp; done) | (go_simp; rfl)); intro gb259 hg w12 hbox hb; have n0_ := Aside0.mk (below_step (bb_ HB) hb); have n1_ := Aside0.mk (hbox); have n2_ := Aside0.mk ((by rw [hg]; exact (below_size (bb_ HB)) : w.heap.size ≤ gb259)); have n3_ := Aside0.mk ((by rw [hg]; exact (below_size (bb_ HB)) : w.heap.size ≤ gb259)); clear HB; have HB := n0_; have BK259 := n1_; have GW259 := n2_; have GE259 := n3_; clear n0_ n1_ n2_ n3_; clear hb hbox hg; have hcz13_0 : w12.cell? ⟨gb259, 0, none⟩ = some (.int .i64 0) := (blk_cell BK259.out 0).trans rfl; have hcz13_1 : w12.cell? ⟨gb259, 1, none⟩ = some (.int .i64 0) := (blk_cell BK259.out 1).trans rfl; have hcz13_2 : w12.cell? ⟨gb259, 2, none⟩ = some (.int .i64 0) := (blk_cell BK259.out 2).trans rfl; have hfz13_0 := blk_frozen BK259.out 0; have hfz13_1 := blk_frozen BK259.out 1; have hfz13_2 := blk_frozen BK259.out 2)))
         go_ret
         exact ⟨ew_, by repeat (first | (with_reducible first | exact HB.out | apply below_alloc | apply pw_below_drewN | apply below_drew1 | refine below_set ?_ GE259.out) | exact HB.out)⟩
        ·rw [if_neg c11] at H
         have c11b0 : decide (((rd_T55 l0 x3_1).f1) < 1) = false := decide_eq_false c11
         clear c11
         by_cases c14 : ((rd_T55 l0 x3_1).f1) > 64
         ·rw [if_pos c14] at H
          have c14b0 : decide (64 < ((rd_T55 l0 x3_1).f1)) = true := decide_eq_true c14
          clear c14
          obtain rfl := Option.some.inj H
          have p258 : 0 ≤ (x3_1 : Int) := od_
          have q258 : x3_1 < (l0.length : Int) := od_
          obtain ⟨ad258, e258, hx258_0, hx258_1, hx258_2⟩ := at_T55 HR0.out x3_1 p258 q258
          cases e258
          replace hx258_0 := (HB.out.cell (World.block_lt_of_cell? w _ hx258_0)).trans hx258_0
          replace hx258_1 := (HB.out.cell (World.block_lt_of_cell? w _ hx258_1)).trans hx258_1
          replace hx258_2 := (HB.out.cell (World.block_lt_of_cell? w _ hx258_2)).trans hx258_2
          replace p258 := eq_true p258
          replace q258 := eq_true q258
          go_wp2_with (first | ((with_reducible refine gate_dst (N := 4) rfl ?_); refine box_event ?hg (N := 4) ?hd (cs := #[.int .i64 0, .int .i64 0, .int .i64 0]) (t := 55) ?hr ?_; (case hd => rfl); (case hg => rfl); (case hr => first | (go_simp; done) | (go_simp; rfl)); intro gb259 hg w15 hbox hb; have n0_ := Aside0.mk (below_step (bb_ HB) hb); have n1_ := Aside0.mk (hbox); have n2_ := Aside0.mk ((by rw [hg]; exact (below_size (bb_ HB)) : w.heap.size ≤ gb259)); have n3_ := Aside0.mk ((by rw [hg]; exact (below_size (bb_ HB)) : w.heap.size ≤ gb259)); clear HB; have HB := n0_; have BK259 := n1_; have GW259 := n2_; have GE259 := n3_; clear n0_ n1_ n2_ n3_; clear hb hbox hg; have hcz16_0 : w15.cell? ⟨gb259, 0, none⟩ = some (.int .i64 0) := (blk_cell BK259.out 0).trans rfl; have hcz16_1 : w15.cell? ⟨gb259, 1, none⟩ = some (.int .i64 0) := (blk_cell BK259.out 1).trans rfl; have hcz16_2 : w15.cell? ⟨gb259, 2, none⟩ = some (.int .i64 0) := (blk_cell BK259.out 2).trans rfl; have hfz16_0 := blk_frozen BK259.out 0; have hfz16_1 := blk_frozen BK259.out 1; have hfz16_2 := blk_frozen BK259.out 2))
          repeat (go_quiet (first | ((with_reducible refine gate_dst (N := 4) rfl ?_); refine box_event ?hg (N := 4) ?hd (cs := #[.int .i64 0, .int .i64 0, .int .i64 0]) (t := 55) ?hr ?_; (case hd => rfl); (case hg => rfl); (case hr => first | (go_simp; done) | (go_simp; rfl)); intro gb259 hg w15 hbox hb; have n0_ := Aside0.mk (below_step (bb_ HB) hb); have n1_ := Aside0.mk (hbox); have n2_ := Aside0.mk ((by rw [hg]; exact (below_size (bb_ HB)) : w.heap.size ≤ gb259)); have n3_ := Aside0.mk ((by rw [hg]; exact (below_size (bb_ HB)) : w.heap.size ≤ gb259)); clear HB; have HB := n0_; have BK259 := n1_; have GW259 := n2_; have GE259 := n3_; clear n0_ n1_ n2_ n3_; clear hb hbox hg; have hcz16_0 : w15.cell? ⟨gb259, 0, none⟩ = some (.int .i64 0) := (blk_cell BK259.out 0).trans rfl; have hcz16_1 : w15.cell? ⟨gb259, 1, none⟩ = some (.int .i64 0) := (blk_cell BK259.out 1).trans rfl; have hcz16_2 : w15.cell? ⟨gb259, 2, none⟩ = some (.int .i64 0) := (blk_cell BK259.out 2).trans rfl; have hfz16_0 := blk_frozen BK259.out 0; have hfz16_1 := blk_frozen BK259.out 1; have hfz16_2 := blk_frozen BK259.out 2)); try go_wp2_with (first | ((with_reducible refine gate_dst (N := 4) rfl ?_); refine box_event ?hg (N := 4) ?hd (cs := #[.int .i64 0, .int .i64 0, .int .i64 0]) (t := 55) ?hr ?_; (case hd => rfl); (case hg => rfl); (case hr => first | (go_simp; done) | (go_simp; rfl)); intro gb259 hg w15 hbox hb; have n0_ := Aside0.mk (below_step (bb_ HB) hb); have n1_ := Aside0.mk (hbox); have n2_ := Aside0.mk ((by rw [hg]; exact (below_size (bb_ HB)) : w.heap.size ≤ gb259)); have n3_ := Aside0.mk ((by rw [hg]; exact (below_size (bb_ HB)) : w.heap.size ≤ gb259)); clear HB; have HB := n0_; have BK259 := n1_; have GW259 := n2_; have GE259 := n3_; clear n0_ n1_ n2_ n3_; clear hb hbox hg; have hcz16_0 : w15.cell? ⟨gb259, 0, none⟩ = some (.int .i64 0) := (blk_cell BK259.out 0).trans rfl; have hcz16_1 : w15.cell? ⟨gb259, 1, none⟩ = some (.int .i64 0) := (blk_cell BK259.out 1).trans rfl; have hcz16_2 : w15.cell? ⟨gb259, 2, none⟩ = some (.int .i64 0) := (blk_cell BK259.out 2).trans rfl; have hfz16_0 := blk_frozen BK259.out 0; have hfz16_1 := blk_frozen BK259.out 1; have hfz16_2 := blk_frozen BK259.out 2)))
          go_ret
          exact ⟨ew_, by repeat (first | (with_reducible first | exact HB.out | apply below_alloc | apply pw_below_drewN | apply below_drew1 | refine below_set ?_ GE259.out) | exact HB.out)⟩
         ·rw [if_neg c14] at H
          have c14b0 : decide (64 < ((rd_T55 l0 x3_1).f1)) = false := decide_eq_false c14
          clear c14
          by_cases c17 : ((rd_T55 l0 x3_1).f2) < 0
          ·rw [if_pos c17] at H
           have c17b0 : decide (((rd_T55 l0 x3_1).f2) < 0) = true := decide_eq_true c17
           clear c17
           obtain rfl := Option.some.inj H
           have p258 : 0 ≤ (x3_1 : Int) := od_
           have q258 : x3_1 < (l0.length : Int) := od_
           obtain ⟨ad258, e258, hx258_0, hx258_1, hx258_2⟩ := at_T55 HR0.out x3_1 p258 q258
           cases e258
           replace hx258_0 := (HB.out.cell (World.block_lt_of_cell? w _ hx258_0)).trans hx258_0
           replace hx258_1 := (HB.out.cell (World.block_lt_of_cell? w _ hx258_1)).trans hx258_1
           replace hx258_2 := (HB.out.cell (World.block_lt_of_cell? w _ hx258_2)).trans hx258_2
           replace p258 := eq_true p258
           replace q258 := eq_true q258
           go_wp2_with (first | ((with_reducible refine gate_dst (N := 4) rfl ?_); refine box_event ?hg (N := 4) ?hd (cs := #[.int .i64 0, .int .i64 0, .int .i64 0]) (t := 55) ?hr ?_; (case hd => rfl); (case hg => rfl); (case hr => first | (go_simp; done) | (go_simp; rfl)); intro gb259 hg w18 hbox hb; have n0_ := Aside0.mk (below_step (bb_ HB) hb); have n1_ := Aside0.mk (hbox); have n2_ := Aside0.mk ((by rw [hg]; exact (below_size (bb_ HB)) : w.heap.size ≤ gb259)); have n3_ := Aside0.mk ((by rw [hg]; exact (below_size (bb_ HB)) : w.heap.size ≤ gb259)); clear HB; have HB := n0_; have BK259 := n1_; have GW259 := n2_; have GE259 := n3_; clear n0_ n1_ n2_ n3_; clear hb hbox hg; have hcz19_0 : w18.cell? ⟨gb259, 0, none⟩ = some (.int .i64 0) := (blk_cell BK259.out 0).trans rfl; have hcz19_1 : w18.cell? ⟨gb259, 1, none⟩ = some (.int .i64 0) := (blk_cell BK259.out 1).trans rfl; have hcz19_2 : w18.cell? ⟨gb259, 2, none⟩ = some (.int .i64 0) := (blk_cell BK259.out 2).trans rfl; have hfz19_0 := blk_frozen BK259.out 0; have hfz19_1 := blk_frozen BK259.out 1; have hfz19_2 := blk_frozen BK259.out 2))
           repeat (go_quiet (first | ((with_reducible refine gate_dst (N := 4) rfl ?_); refine box_event ?hg (N := 4) ?hd (cs := #[.int .i64 0, .int .i64 0, .int .i64 0]) (t := 55) ?hr ?_; (case hd => rfl); (case hg => rfl); (case hr => first | (go_simp; done) | (go_simp; rfl)); intro gb259 hg w18 hbox hb; have n0_ := Aside0.mk (below_step (bb_ HB) hb); have n1_ := Aside0.mk (hbox); have n2_ := Aside0.mk ((by rw [hg]; exact (below_size (bb_ HB)) : w.heap.size ≤ gb259)); have n3_ := Aside0.mk ((by rw [hg]; exact (below_size (bb_ HB)) : w.heap.size ≤ gb259)); clear HB; have HB := n0_; have BK259 := n1_; have GW259 := n2_; have GE259 := n3_; clear n0_ n1_ n2_ n3_; clear hb hbox hg; have hcz19_0 : w18.cell? ⟨gb259, 0, none⟩ = some (.int .i64 0) := (blk_cell BK259.out 0).trans rfl; have hcz19_1 : w18.cell? ⟨gb259, 1, none⟩ = some (.int .i64 0) := (blk_cell BK259.out 1).trans rfl; have hcz19_2 : w18.cell? ⟨gb259, 2, none⟩ = some (.int .i64 0) := (blk_cell BK259.out 2).trans rfl; have hfz19_0 := blk_frozen BK259.out 0; have hfz19_1 := blk_frozen BK259.out 1; have hfz19_2 := blk_frozen BK259.out 2)); try go_wp2_with (first | ((with_reducible refine gate_dst (N := 4) rfl ?_); refine box_event ?hg (N := 4) ?hd (cs := #[.int .i64 0, .int .i64 0, .int .i64 0]) (t := 55) ?hr ?_; (case hd => rfl); (case hg => rfl); (case hr => first | (go_simp; done) | (go_simp; rfl)); intro gb259 hg w18 hbox hb; have n0_ := Aside0.mk (below_step (bb_ HB) hb); have n1_ := Aside0.mk (hbox); have n2_ := Aside0.mk ((by rw [hg]; exact (below_size (bb_ HB)) : w.heap.size ≤ gb259)); have n3_ := Aside0.mk ((by rw [hg]; exact (below_size (bb_ HB)) : w.heap.size ≤ gb259)); clear HB; have HB := n0_; have BK259 := n1_; have GW259 := n2_; have GE259 := n3_; clear n0_ n1_ n2_ n3_; clear hb hbox hg; have hcz19_0 : w18.cell? ⟨gb259, 0, none⟩ = some (.int .i64 0) := (blk_cell BK259.out 0).trans rfl; have hcz19_1 : w18.cell? ⟨gb259, 1, none⟩ = some (.int .i64 0) := (blk_cell BK259.out 1).trans rfl; have hcz19_2 : w18.cell? ⟨gb259, 2, none⟩ = some (.int .i64 0) := (blk_cell BK259.out 2).trans rfl; have hfz19_0 := blk_frozen BK259.out 0; have hfz19_1 := blk_frozen BK259.out 1; have hfz19_2 := blk_frozen BK259.out 2)))
           go_ret
           exact ⟨ew_, by repeat (first | (with_reducible first | exact HB.out | apply below_alloc | apply pw_below_drewN | apply below_drew1 | refine below_set ?_ GE259.out) | exact HB.out)⟩
          ·rw [if_neg c17] at H
           have c17b0 : decide (((rd_T55 l0 x3_1).f2) < 0) = false := decide_eq_false c17
           clear c17
           by_cases c20 : ((rd_T55 l0 x3_1).f2) > 36524
           ·rw [if_pos c20] at H
            have c20b0 : decide (36524 < ((rd_T55 l0 x3_1).f2)) = true := decide_eq_true c20
            clear c20
            obtain rfl := Option.some.inj H
            have p258 : 0 ≤ (x3_1 : Int) := od_
            have q258 : x3_1 < (l0.length : Int) := od_
            obtain ⟨ad258, e258, hx258_0, hx258_1, hx258_2⟩ := at_T55 HR0.out x3_1 p258 q258
            cases e258
            replace hx258_0 := (HB.out.cell (World.block_lt_of_cell? w _ hx258_0)).trans hx258_0
            replace hx258_1 := (HB.out.cell (World.block_lt_of_cell? w _ hx258_1)).trans hx258_1
            replace hx258_2 := (HB.out.cell (World.block_lt_of_cell? w _ hx258_2)).trans hx258_2
            replace p258 := eq_true p258
            replace q258 := eq_true q258
            go_wp2_with (first | ((with_reducible refine gate_dst (N := 4) rfl ?_); refine box_event ?hg (N := 4) ?hd (cs := #[.int .i64 0, .int .i64 0, .int .i64 0]) (t := 55) ?hr ?_; (case hd => rfl); (case hg => rfl); (case hr => first | (go_simp; done) | (go_simp; rfl)); intro gb259 hg w21 hbox hb; have n0_ := Aside0.mk (below_step (bb_ HB) hb); have n1_ := Aside0.mk (hbox); have n2_ := Aside0.mk ((by rw [hg]; exact (below_size (bb_ HB)) : w.heap.size ≤ gb259)); have n3_ := Aside0.mk ((by rw [hg]; exact (below_size (bb_ HB)) : w.heap.size ≤ gb259)); clear HB; have HB := n0_; have BK259 := n1_; have GW259 := n2_; have GE259 := n3_; clear n0_ n1_ n2_ n3_; clear hb hbox hg; have hcz22_0 : w21.cell? ⟨gb259, 0, none⟩ = some (.int .i64 0) := (blk_cell BK259.out 0).trans rfl; have hcz22_1 : w21.cell? ⟨gb259, 1, none⟩ = some (.int .i64 0) := (blk_cell BK259.out 1).trans rfl; have hcz22_2 : w21.cell? ⟨gb259, 2, none⟩ = some (.int .i64 0) := (blk_cell BK259.out 2).trans rfl; have hfz22_0 := blk_frozen BK259.out 0; have hfz22_1 := blk_frozen BK259.out 1; have hfz22_2 := blk_frozen BK259.out 2))
            repeat (go_quiet (first | ((with_reducible refine gate_dst (N := 4) rfl ?_); refine box_event ?hg (N := 4) ?hd (cs := #[.int .i64 0, .int .i64 0, .int .i64 0]) (t := 55) ?hr ?_; (case hd => rfl); (case hg => rfl); (case hr => first | (go_simp; done) | (go_simp; rfl)); intro gb259 hg w21 hbox hb; have n0_ := Aside0.mk (below_step (bb_ HB) hb); have n1_ := Aside0.mk (hbox); have n2_ := Aside0.mk ((by rw [hg]; exact (below_size (bb_ HB)) : w.heap.size ≤ gb259)); have n3_ := Aside0.mk ((by rw [hg]; exact (below_size (bb_ HB)) : w.heap.size ≤ gb259)); clear HB; have HB := n0_; have BK259 := n1_; have GW259 := n2_; have GE259 := n3_; clear n0_ n1_ n2_ n3_; clear hb hbox hg; have hcz22_0 : w21.cell? ⟨gb259, 0, none⟩ = some (.int .i64 0) := (blk_cell BK259.out 0).trans rfl; have hcz22_1 : w21.cell? ⟨gb259, 1, none⟩ = some (.int .i64 0) := (blk_cell BK259.out 1).trans rfl; have hcz22_2 : w21.cell? ⟨gb259, 2, none⟩ = some (.int .i64 0) := (blk_cell BK259.out 2).trans rfl; have hfz22_0 := blk_frozen BK259.out 0; have hfz22_1 := blk_frozen BK259.out 1; have hfz22_2 := blk_frozen BK259.out 2)); try go_wp2_with (first | ((with_reducible refine gate_dst (N := 4) rfl ?_); refine box_event ?hg (N := 4) ?hd (cs := #[.int .i64 0, .int .i64 0, .int .i64 0]) (t := 55) ?hr ?_; (case hd => rfl); (case hg => rfl); (case hr => first | (go_simp; done) | (go_simp; rfl)); intro gb259 hg w21 hbox hb; have n0_ := Aside0.mk (below_step (bb_ HB) hb); have n1_ := Aside0.mk (hbox); have n2_ := Aside0.mk ((by rw [hg]; exact (below_size (bb_ HB)) : w.heap.size ≤ gb259)); have n3_ := Aside0.mk ((by rw [hg]; exact (below_size (bb_ HB)) : w.heap.size ≤ gb259)); clear HB; have HB := n0_; have BK259 := n1_; have GW259 := n2_; have GE259 := n3_; clear n0_ n1_ n2_ n3_; clear hb hbox hg; have hcz22_0 : w21.cell? ⟨gb259, 0, none⟩ = some (.int .i64 0) := (blk_cell BK259.out 0).trans rfl; have hcz22_1 : w21.cell? ⟨gb259, 1, none⟩ = some (.int .i64 0) := (blk_cell BK259.out 1).trans rfl; have hcz22_2 : w21.cell? ⟨gb259, 2, none⟩ = some (.int .i64 0) := (blk_cell BK259.out 2).trans rfl; have hfz22_0 := blk_frozen BK259.out 0; have hfz22_1 := blk_frozen BK259.out 1; have hfz22_2 := blk_frozen BK259.out 2)))
            go_ret
            exact ⟨ew_, by repeat (first | (with_reducible first | exact HB.out | apply below_alloc | apply pw_below_drewN | apply below_drew1 | refine below_set ?_ GE259.out) | exact HB.out)⟩
           ·rw [if_neg c20] at H
            have c20b0 : decide (36524 < ((rd_T55 l0 x3_1).f2)) = false := decide_eq_false c20
            clear c20
            by_cases c23 : x3_1 > 0
            ·rw [if_pos c23] at H
             have c23b0 : decide (0 < x3_1) = true := decide_eq_true c23
             clear c23
             obtain ⟨ji24, hji24⟩ : ∃ j_ : Int, (wrap64 (x3_1 - 1)) = j_ := ⟨_, rfl⟩
             replace H : (if 0 ≤ (ji24) then (if (ji24) < (l0.length : Int) then (if ((rd_T55 l0 x3_1).f2) < ((rd_T55 l0 (ji24)).f2) then (some false) else (cohousingref26_Replies.l0 k1 l0 (wrap64 (x3_1 + 1)))) else (none)) else (none)) = some r := by first | (rw [hji24] at H; exact H) | (simp only [hji24] at H ⊢; exact H)
             have hji24w : (IntKind.i64.wrap (x3_1 - 1)) = ji24 := (i64_w _).trans hji24
             by_cases c25 : 0 ≤ (ji24)
             ·rw [if_pos c25] at H
              have c25b0 : decide (0 ≤ (ji24)) = true := decide_eq_true c25
              clear c25
              by_cases c26 : (ji24) < (l0.length : Int)
              ·rw [if_pos c26] at H
               have c26b0 : decide ((ji24) < (l0.length : Int)) = true := decide_eq_true c26
               clear c26
               by_cases c27 : ((rd_T55 l0 x3_1).f2) < ((rd_T55 l0 (ji24)).f2)
               ·rw [if_pos c27] at H
                have c27b0 : decide (((rd_T55 l0 x3_1).f2) < ((rd_T55 l0 (ji24)).f2)) = true := decide_eq_true c27
                clear c27
                obtain rfl := Option.some.inj H
                have p258 : 0 ≤ (x3_1 : Int) := od_
                have q258 : x3_1 < (l0.length : Int) := od_
                obtain ⟨ad258, e258, hx258_0, hx258_1, hx258_2⟩ := at_T55 HR0.out x3_1 p258 q258
                cases e258
                replace hx258_0 := (HB.out.cell (World.block_lt_of_cell? w _ hx258_0)).trans hx258_0
                replace hx258_1 := (HB.out.cell (World.block_lt_of_cell? w _ hx258_1)).trans hx258_1
                replace hx258_2 := (HB.out.cell (World.block_lt_of_cell? w _ hx258_2)).trans hx258_2
                replace p258 := eq_true p258
                replace q258 := eq_true q258
                go_wp2_with (first | ((with_reducible refine gate_dst (N := 4) rfl ?_); refine box_event ?hg (N := 4) ?hd (cs := #[.int .i64 0, .int .i64 0, .int .i64 0]) (t := 55) ?hr ?_; (case hd => rfl); (case hg => rfl); (case hr => first | (go_simp; done) | (go_simp; rfl)); intro gb259 hg w28 hbox hb; have n0_ := Aside0.mk (below_step (bb_ HB) hb); have n1_ := Aside0.mk (hbox); have n2_ := Aside0.mk ((by rw [hg]; exact (below_size (bb_ HB)) : w.heap.size ≤ gb259)); have n3_ := Aside0.mk ((by rw [hg]; exact (below_size (bb_ HB)) : w.heap.size ≤ gb259)); clear HB; have HB := n0_; have BK259 := n1_; have GW259 := n2_; have GE259 := n3_; clear n0_ n1_ n2_ n3_; clear hb hbox hg; have hcz29_0 : w28.cell? ⟨gb259, 0, none⟩ = some (.int .i64 0) := (blk_cell BK259.out 0).trans rfl; have hcz29_1 : w28.cell? ⟨gb259, 1, none⟩ = some (.int .i64 0) := (blk_cell BK259.out 1).trans rfl; have hcz29_2 : w28.cell? ⟨gb259, 2, none⟩ = some (.int .i64 0) := (blk_cell BK259.out 2).trans rfl; have hfz29_0 := blk_frozen BK259.out 0; have hfz29_1 := blk_frozen BK259.out 1; have hfz29_2 := blk_frozen BK259.out 2; have p260 : 0 ≤ ((ji24) : Int) := od_; have q260 : (ji24) < (l0.length : Int) := od_; obtain ⟨ad260, e260, hx260_0, hx260_1, hx260_2⟩ := at_T55 HR0.out (ji24) p260 q260; obtain rfl : ad258 = ad260 := (by injection e260); have hn260_0 : ad258.block ≠ gb259 := Nat.ne_of_lt (Nat.lt_of_lt_of_le (by have := World.block_lt_of_cell? _ _ hx260_0; first | rwa [add_block] at this | exact this) GW259.out); have hn260_1 : ad258.block ≠ gb259 := Nat.ne_of_lt (Nat.lt_of_lt_of_le (by have := World.block_lt_of_cell? _ _ hx260_0; first | rwa [add_block] at this | exact this) GW259.out); have hn260_2 : ad258.block ≠ gb259 := Nat.ne_of_lt (Nat.lt_of_lt_of_le (by have := World.block_lt_of_cell? _ _ hx260_0; first | rwa [add_block] at this | exact this) GW259.out); replace hx260_0 := (HB.out.cell (World.block_lt_of_cell? w _ hx260_0)).trans hx260_0; replace hx260_1 := (HB.out.cell (World.block_lt_of_cell? w _ hx260_1)).trans hx260_1; replace hx260_2 := (HB.out.cell (World.block_lt_of_cell? w _ hx260_2)).trans hx260_2; replace hx260_0 := (cell_far (p := ⟨gb259, 0, none⟩) (by first | (rw [add_block]; exact hn260_0) | (show (Addr.add _ _).block ≠ _; rw [add_block]; exact hn260_0) | exact hn260_0) (.int .i64 ((rd_T55 l0 x3_1).f0))).trans hx260_0; replace hx260_1 := (cell_far (p := ⟨gb259, 0, none⟩) (by first | (rw [add_block]; exact hn260_0) | (show (Addr.add _ _).block ≠ _; rw [add_block]; exact hn260_0) | exact hn260_0) (.int .i64 ((rd_T55 l0 x3_1).f0))).trans hx260_1; replace hx260_2 := (cell_far (p := ⟨gb259, 0, none⟩) (by first | (rw [add_block]; exact hn260_0) | (show (Addr.add _ _).block ≠ _; rw [add_block]; exact hn260_0) | exact hn260_0) (.int .i64 ((rd_T55 l0 x3_1).f0))).trans hx260_2; replace hx260_0 := (cell_far (p := ⟨gb259, 1, none⟩) (by first | (rw [add_block]; exact hn260_1) | (show (Addr.add _ _).block ≠ _; rw [add_block]; exact hn260_1) | exact hn260_1) (.int .i64 ((rd_T55 l0 x3_1).f1))).trans hx260_0; replace hx260_1 := (cell_far (p := ⟨gb259, 1, none⟩) (by first | (rw [add_block]; exact hn260_1) | (show (Addr.add _ _).block ≠ _; rw [add_block]; exact hn260_1) | exact hn260_1) (.int .i64 ((rd_T55 l0 x3_1).f1))).trans hx260_1; replace hx260_2 := (cell_far (p := ⟨gb259, 1, none⟩) (by first | (rw [add_block]; exact hn260_1) | (show (Addr.add _ _).block ≠ _; rw [add_block]; exact hn260_1) | exact hn260_1) (.int .i64 ((rd_T55 l0 x3_1).f1))).trans hx260_2; replace hx260_0 := (cell_far (p := ⟨gb259, 2, none⟩) (by first | (rw [add_block]; exact hn260_2) | (show (Addr.add _ _).block ≠ _; rw [add_block]; exact hn260_2) | exact hn260_2) (.int .i64 ((rd_T55 l0 x3_1).f2))).trans hx260_0; replace hx260_1 := (cell_far (p := ⟨gb259, 2, none⟩) (by first | (rw [add_block]; exact hn260_2) | (show (Addr.add _ _).block ≠ _; rw [add_block]; exact hn260_2) | exact hn260_2) (.int .i64 ((rd_T55 l0 x3_1).f2))).trans hx260_1; replace hx260_2 := (cell_far (p := ⟨gb259, 2, none⟩) (by first | (rw [add_block]; exact hn260_2) | (show (Addr.add _ _).block ≠ _; rw [add_block]; exact hn260_2) | exact hn260_2) (.int .i64 ((rd_T55 l0 x3_1).f2))).trans hx260_2; (try have hy260_0 := fun (n_ : Nat) => (show (((((w28.drewN n_).setCell ⟨gb259, 0, none⟩ (.int .i64 ((rd_T55 l0 x3_1).f0))).setCell ⟨gb259, 1, none⟩ (.int .i64 ((rd_T55 l0 x3_1).f1))).setCell ⟨gb259, 2, none⟩ (.int .i64 ((rd_T55 l0 x3_1).f2)))).cell? _ = some _ from hx260_0)); (try have hy260_1 := fun (n_ : Nat) => (show (((((w28.drewN n_).setCell ⟨gb259, 0, none⟩ (.int .i64 ((rd_T55 l0 x3_1).f0))).setCell ⟨gb259, 1, none⟩ (.int .i64 ((rd_T55 l0 x3_1).f1))).setCell ⟨gb259, 2, none⟩ (.int .i64 ((rd_T55 l0 x3_1).f2)))).cell? _ = some _ from hx260_1)); (try have hy260_2 := fun (n_ : Nat) => (show (((((w28.drewN n_).setCell ⟨gb259, 0, none⟩ (.int .i64 ((rd_T55 l0 x3_1).f0))).setCell ⟨gb259, 1, none⟩ (.int .i64 ((rd_T55 l0 x3_1).f1))).setCell ⟨gb259, 2, none⟩ (.int .i64 ((rd_T55 l0 x3_1).f2)))).cell? _ = some _ from hx260_2)); clear hn260_0; clear hn260_1; clear hn260_2; replace p260 := eq_true p260; replace q260 := eq_true q260))
                repeat (go_quiet (first | ((with_reducible refine gate_dst (N := 4) rfl ?_); refine box_event ?hg (N := 4) ?hd (cs := #[.int .i64 0, .int .i64 0, .int .i64 0]) (t := 55) ?hr ?_; (case hd => rfl); (case hg => rfl); (case hr => first | (go_simp; done) | (go_simp; rfl)); intro gb259 hg w28 hbox hb; have n0_ := Aside0.mk (below_step (bb_ HB) hb); have n1_ := Aside0.mk (hbox); have n2_ := Aside0.mk ((by rw [hg]; exact (below_size (bb_ HB)) : w.heap.size ≤ gb259)); have n3_ := Aside0.mk ((by rw [hg]; exact (below_size (bb_ HB)) : w.heap.size ≤ gb259)); clear HB; have HB := n0_; have BK259 := n1_; have GW259 := n2_; have GE259 := n3_; clear n0_ n1_ n2_ n3_; clear hb hbox hg; have hcz29_0 : w28.cell? ⟨gb259, 0, none⟩ = some (.int .i64 0) := (blk_cell BK259.out 0).trans rfl; have hcz29_1 : w28.cell? ⟨gb259, 1, none⟩ = some (.int .i64 0) := (blk_cell BK259.out 1).trans rfl; have hcz29_2 : w28.cell? ⟨gb259, 2, none⟩ = some (.int .i64 0) := (blk_cell BK259.out 2).trans rfl; have hfz29_0 := blk_frozen BK259.out 0; have hfz29_1 := blk_frozen BK259.out 1; have hfz29_2 := blk_frozen BK259.out 2; have p260 : 0 ≤ ((ji24) : Int) := od_; have q260 : (ji24) < (l0.length : Int) := od_; obtain ⟨ad260, e260, hx260_0, hx260_1, hx260_2⟩ := at_T55 HR0.out (ji24) p260 q260; obtain rfl : ad258 = ad260 := (by injection e260); have hn260_0 : ad258.block ≠ gb259 := Nat.ne_of_lt (Nat.lt_of_lt_of_le (by have := World.block_lt_of_cell? _ _ hx260_0; first | rwa [add_block] at this | exact this) GW259.out); have hn260_1 : ad258.block ≠ gb259 := Nat.ne_of_lt (Nat.lt_of_lt_of_le (by have := World.block_lt_of_cell? _ _ hx260_0; first | rwa [add_block] at this | exact this) GW259.out); have hn260_2 : ad258.block ≠ gb259 := Nat.ne_of_lt (Nat.lt_of_lt_of_le (by have := World.block_lt_of_cell? _ _ hx260_0; first | rwa [add_block] at this | exact this) GW259.out); replace hx260_0 := (HB.out.cell (World.block_lt_of_cell? w _ hx260_0)).trans hx260_0; replace hx260_1 := (HB.out.cell (World.block_lt_of_cell? w _ hx260_1)).trans hx260_1; replace hx260_2 := (HB.out.cell (World.block_lt_of_cell? w _ hx260_2)).trans hx260_2; replace hx260_0 := (cell_far (p := ⟨gb259, 0, none⟩) (by first | (rw [add_block]; exact hn260_0) | (show (Addr.add _ _).block ≠ _; rw [add_block]; exact hn260_0) | exact hn260_0) (.int .i64 ((rd_T55 l0 x3_1).f0))).trans hx260_0; replace hx260_1 := (cell_far (p := ⟨gb259, 0, none⟩) (by first | (rw [add_block]; exact hn260_0) | (show (Addr.add _ _).block ≠ _; rw [add_block]; exact hn260_0) | exact hn260_0) (.int .i64 ((rd_T55 l0 x3_1).f0))).trans hx260_1; replace hx260_2 := (cell_far (p := ⟨gb259, 0, none⟩) (by first | (rw [add_block]; exact hn260_0) | (show (Addr.add _ _).block ≠ _; rw [add_block]; exact hn260_0) | exact hn260_0) (.int .i64 ((rd_T55 l0 x3_1).f0))).trans hx260_2; replace hx260_0 := (cell_far (p := ⟨gb259, 1, none⟩) (by first | (rw [add_block]; exact hn260_1) | (show (Addr.add _ _).block ≠ _; rw [add_block]; exact hn260_1) | exact hn260_1) (.int .i64 ((rd_T55 l0 x3_1).f1))).trans hx260_0; replace hx260_1 := (cell_far (p := ⟨gb259, 1, none⟩) (by first | (rw [add_block]; exact hn260_1) | (show (Addr.add _ _).block ≠ _; rw [add_block]; exact hn260_1) | exact hn260_1) (.int .i64 ((rd_T55 l0 x3_1).f1))).trans hx260_1; replace hx260_2 := (cell_far (p := ⟨gb259, 1, none⟩) (by first | (rw [add_block]; exact hn260_1) | (show (Addr.add _ _).block ≠ _; rw [add_block]; exact hn260_1) | exact hn260_1) (.int .i64 ((rd_T55 l0 x3_1).f1))).trans hx260_2; replace hx260_0 := (cell_far (p := ⟨gb259, 2, none⟩) (by first | (rw [add_block]; exact hn260_2) | (show (Addr.add _ _).block ≠ _; rw [add_block]; exact hn260_2) | exact hn260_2) (.int .i64 ((rd_T55 l0 x3_1).f2))).trans hx260_0; replace hx260_1 := (cell_far (p := ⟨gb259, 2, none⟩) (by first | (rw [add_block]; exact hn260_2) | (show (Addr.add _ _).block ≠ _; rw [add_block]; exact hn260_2) | exact hn260_2) (.int .i64 ((rd_T55 l0 x3_1).f2))).trans hx260_1; replace hx260_2 := (cell_far (p := ⟨gb259, 2, none⟩) (by first | (rw [add_block]; exact hn260_2) | (show (Addr.add _ _).block ≠ _; rw [add_block]; exact hn260_2) | exact hn260_2) (.int .i64 ((rd_T55 l0 x3_1).f2))).trans hx260_2; (try have hy260_0 := fun (n_ : Nat) => (show (((((w28.drewN n_).setCell ⟨gb259, 0, none⟩ (.int .i64 ((rd_T55 l0 x3_1).f0))).setCell ⟨gb259, 1, none⟩ (.int .i64 ((rd_T55 l0 x3_1).f1))).setCell ⟨gb259, 2, none⟩ (.int .i64 ((rd_T55 l0 x3_1).f2)))).cell? _ = some _ from hx260_0)); (try have hy260_1 := fun (n_ : Nat) => (show (((((w28.drewN n_).setCell ⟨gb259, 0, none⟩ (.int .i64 ((rd_T55 l0 x3_1).f0))).setCell ⟨gb259, 1, none⟩ (.int .i64 ((rd_T55 l0 x3_1).f1))).setCell ⟨gb259, 2, none⟩ (.int .i64 ((rd_T55 l0 x3_1).f2)))).cell? _ = some _ from hx260_1)); (try have hy260_2 := fun (n_ : Nat) => (show (((((w28.drewN n_).setCell ⟨gb259, 0, none⟩ (.int .i64 ((rd_T55 l0 x3_1).f0))).setCell ⟨gb259, 1, none⟩ (.int .i64 ((rd_T55 l0 x3_1).f1))).setCell ⟨gb259, 2, none⟩ (.int .i64 ((rd_T55 l0 x3_1).f2)))).cell? _ = some _ from hx260_2)); clear hn260_0; clear hn260_1; clear hn260_2; replace p260 := eq_true p260; replace q260 := eq_true q260)); try go_wp2_with (first | ((with_reducible refine gate_dst (N := 4) rfl ?_); refine box_event ?hg (N := 4) ?hd (cs := #[.int .i64 0, .int .i64 0, .int .i64 0]) (t := 55) ?hr ?_; (case hd => rfl); (case hg => rfl); (case hr => first | (go_simp; done) | (go_simp; rfl)); intro gb259 hg w28 hbox hb; have n0_ := Aside0.mk (below_step (bb_ HB) hb); have n1_ := Aside0.mk (hbox); have n2_ := Aside0.mk ((by rw [hg]; exact (below_size (bb_ HB)) : w.heap.size ≤ gb259)); have n3_ := Aside0.mk ((by rw [hg]; exact (below_size (bb_ HB)) : w.heap.size ≤ gb259)); clear HB; have HB := n0_; have BK259 := n1_; have GW259 := n2_; have GE259 := n3_; clear n0_ n1_ n2_ n3_; clear hb hbox hg; have hcz29_0 : w28.cell? ⟨gb259, 0, none⟩ = some (.int .i64 0) := (blk_cell BK259.out 0).trans rfl; have hcz29_1 : w28.cell? ⟨gb259, 1, none⟩ = some (.int .i64 0) := (blk_cell BK259.out 1).trans rfl; have hcz29_2 : w28.cell? ⟨gb259, 2, none⟩ = some (.int .i64 0) := (blk_cell BK259.out 2).trans rfl; have hfz29_0 := blk_frozen BK259.out 0; have hfz29_1 := blk_frozen BK259.out 1; have hfz29_2 := blk_frozen BK259.out 2; have p260 : 0 ≤ ((ji24) : Int) := od_; have q260 : (ji24) < (l0.length : Int) := od_; obtain ⟨ad260, e260, hx260_0, hx260_1, hx260_2⟩ := at_T55 HR0.out (ji24) p260 q260; obtain rfl : ad258 = ad260 := (by injection e260); have hn260_0 : ad258.block ≠ gb259 := Nat.ne_of_lt (Nat.lt_of_lt_of_le (by have := World.block_lt_of_cell? _ _ hx260_0; first | rwa [add_block] at this | exact this) GW259.out); have hn260_1 : ad258.block ≠ gb259 := Nat.ne_of_lt (Nat.lt_of_lt_of_le (by have := World.block_lt_of_cell? _ _ hx260_0; first | rwa [add_block] at this | exact this) GW259.out); have hn260_2 : ad258.block ≠ gb259 := Nat.ne_of_lt (Nat.lt_of_lt_of_le (by have := World.block_lt_of_cell? _ _ hx260_0; first | rwa [add_block] at this | exact this) GW259.out); replace hx260_0 := (HB.out.cell (World.block_lt_of_cell? w _ hx260_0)).trans hx260_0; replace hx260_1 := (HB.out.cell (World.block_lt_of_cell? w _ hx260_1)).trans hx260_1; replace hx260_2 := (HB.out.cell (World.block_lt_of_cell? w _ hx260_2)).trans hx260_2; replace hx260_0 := (cell_far (p := ⟨gb259, 0, none⟩) (by first | (rw [add_block]; exact hn260_0) | (show (Addr.add _ _).block ≠ _; rw [add_block]; exact hn260_0) | exact hn260_0) (.int .i64 ((rd_T55 l0 x3_1).f0))).trans hx260_0; replace hx260_1 := (cell_far (p := ⟨gb259, 0, none⟩) (by first | (rw [add_block]; exact hn260_0) | (show (Addr.add _ _).block ≠ _; rw [add_block]; exact hn260_0) | exact hn260_0) (.int .i64 ((rd_T55 l0 x3_1).f0))).trans hx260_1; replace hx260_2 := (cell_far (p := ⟨gb259, 0, none⟩) (by first | (rw [add_block]; exact hn260_0) | (show (Addr.add _ _).block ≠ _; rw [add_block]; exact hn260_0) | exact hn260_0) (.int .i64 ((rd_T55 l0 x3_1).f0))).trans hx260_2; replace hx260_0 := (cell_far (p := ⟨gb259, 1, none⟩) (by first | (rw [add_block]; exact hn260_1) | (show (Addr.add _ _).block ≠ _; rw [add_block]; exact hn260_1) | exact hn260_1) (.int .i64 ((rd_T55 l0 x3_1).f1))).trans hx260_0; replace hx260_1 := (cell_far (p := ⟨gb259, 1, none⟩) (by first | (rw [add_block]; exact hn260_1) | (show (Addr.add _ _).block ≠ _; rw [add_block]; exact hn260_1) | exact hn260_1) (.int .i64 ((rd_T55 l0 x3_1).f1))).trans hx260_1; replace hx260_2 := (cell_far (p := ⟨gb259, 1, none⟩) (by first | (rw [add_block]; exact hn260_1) | (show (Addr.add _ _).block ≠ _; rw [add_block]; exact hn260_1) | exact hn260_1) (.int .i64 ((rd_T55 l0 x3_1).f1))).trans hx260_2; replace hx260_0 := (cell_far (p := ⟨gb259, 2, none⟩) (by first | (rw [add_block]; exact hn260_2) | (show (Addr.add _ _).block ≠ _; rw [add_block]; exact hn260_2) | exact hn260_2) (.int .i64 ((rd_T55 l0 x3_1).f2))).trans hx260_0; replace hx260_1 := (cell_far (p := ⟨gb259, 2, none⟩) (by first | (rw [add_block]; exact hn260_2) | (show (Addr.add _ _).block ≠ _; rw [add_block]; exact hn260_2) | exact hn260_2) (.int .i64 ((rd_T55 l0 x3_1).f2))).trans hx260_1; replace hx260_2 := (cell_far (p := ⟨gb259, 2, none⟩) (by first | (rw [add_block]; exact hn260_2) | (show (Addr.add _ _).block ≠ _; rw [add_block]; exact hn260_2) | exact hn260_2) (.int .i64 ((rd_T55 l0 x3_1).f2))).trans hx260_2; (try have hy260_0 := fun (n_ : Nat) => (show (((((w28.drewN n_).setCell ⟨gb259, 0, none⟩ (.int .i64 ((rd_T55 l0 x3_1).f0))).setCell ⟨gb259, 1, none⟩ (.int .i64 ((rd_T55 l0 x3_1).f1))).setCell ⟨gb259, 2, none⟩ (.int .i64 ((rd_T55 l0 x3_1).f2)))).cell? _ = some _ from hx260_0)); (try have hy260_1 := fun (n_ : Nat) => (show (((((w28.drewN n_).setCell ⟨gb259, 0, none⟩ (.int .i64 ((rd_T55 l0 x3_1).f0))).setCell ⟨gb259, 1, none⟩ (.int .i64 ((rd_T55 l0 x3_1).f1))).setCell ⟨gb259, 2, none⟩ (.int .i64 ((rd_T55 l0 x3_1).f2)))).cell? _ = some _ from hx260_1)); (try have hy260_2 := fun (n_ : Nat) => (show (((((w28.drewN n_).setCell ⟨gb259, 0, none⟩ (.int .i64 ((rd_T55 l0 x3_1).f0))).setCell ⟨gb259, 1, none⟩ (.int .i64 ((rd_T55 l0 x3_1).f1))).setCell ⟨gb259, 2, none⟩ (.int .i64 ((rd_T55 l0 x3_1).f2)))).cell? _ = some _ from hx260_2)); clear hn260_0; clear hn260_1; clear hn260_2; replace p260 := eq_true p260; replace q260 := eq_true q260)))
                go_ret
                exact ⟨by first | rfl | (simp [errW_none, errW_some] <;> rfl) | (simp only [← hji24]; first | rfl | (simp [errW_none, errW_some] <;> rfl)) | (simp [*, errW_none, errW_some] <;> rfl), by repeat (first | (with_reducible first | exact HB.out | apply below_alloc | apply pw_below_drewN | apply below_drew1 | refine below_set ?_ GE259.out) | exact HB.out)⟩
               ·rw [if_neg c27] at H
                have c27b0 : decide (((rd_T55 l0 x3_1).f2) < ((rd_T55 l0 (ji24)).f2)) = false := decide_eq_false c27
                clear c27
                have H' := Aside0.mk H
                clear H
                have p258 : 0 ≤ (x3_1 : Int) := od_
                have q258 : x3_1 < (l0.length : Int) := od_
                obtain ⟨ad258, e258, hx258_0, hx258_1, hx258_2⟩ := at_T55 HR0.out x3_1 p258 q258
                cases e258
                replace hx258_0 := (HB.out.cell (World.block_lt_of_cell? w _ hx258_0)).trans hx258_0
                replace hx258_1 := (HB.out.cell (World.block_lt_of_cell? w _ hx258_1)).trans hx258_1
                replace hx258_2 := (HB.out.cell (World.block_lt_of_cell? w _ hx258_2)).trans hx258_2
                replace p258 := eq_true p258
                replace q258 := eq_true q258
                go_wp2_with (first | ((with_reducible refine gate_dst (N := 4) rfl ?_); refine box_event ?hg (N := 4) ?hd (cs := #[.int .i64 0, .int .i64 0, .int .i64 0]) (t := 55) ?hr ?_; (case hd => rfl); (case hg => rfl); (case hr => first | (go_simp; done) | (go_simp; rfl)); intro gb259 hg w30 hbox hb; have n0_ := Aside0.mk (below_step (bb_ HB) hb); have n1_ := Aside0.mk (hbox); have n2_ := Aside0.mk ((by rw [hg]; exact (below_size (bb_ HB)) : w.heap.size ≤ gb259)); have n3_ := Aside0.mk ((by rw [hg]; exact (below_size (bb_ HB)) : w.heap.size ≤ gb259)); clear HB; have HB := n0_; have BK259 := n1_; have GW259 := n2_; have GE259 := n3_; clear n0_ n1_ n2_ n3_; clear hb hbox hg; have hcz31_0 : w30.cell? ⟨gb259, 0, none⟩ = some (.int .i64 0) := (blk_cell BK259.out 0).trans rfl; have hcz31_1 : w30.cell? ⟨gb259, 1, none⟩ = some (.int .i64 0) := (blk_cell BK259.out 1).trans rfl; have hcz31_2 : w30.cell? ⟨gb259, 2, none⟩ = some (.int .i64 0) := (blk_cell BK259.out 2).trans rfl; have hfz31_0 := blk_frozen BK259.out 0; have hfz31_1 := blk_frozen BK259.out 1; have hfz31_2 := blk_frozen BK259.out 2; have p260 : 0 ≤ ((ji24) : Int) := od_; have q260 : (ji24) < (l0.length : Int) := od_; obtain ⟨ad260, e260, hx260_0, hx260_1, hx260_2⟩ := at_T55 HR0.out (ji24) p260 q260; obtain rfl : ad258 = ad260 := (by injection e260); have hn260_0 : ad258.block ≠ gb259 := Nat.ne_of_lt (Nat.lt_of_lt_of_le (by have := World.block_lt_of_cell? _ _ hx260_0; first | rwa [add_block] at this | exact this) GW259.out); have hn260_1 : ad258.block ≠ gb259 := Nat.ne_of_lt (Nat.lt_of_lt_of_le (by have := World.block_lt_of_cell? _ _ hx260_0; first | rwa [add_block] at this | exact this) GW259.out); have hn260_2 : ad258.block ≠ gb259 := Nat.ne_of_lt (Nat.lt_of_lt_of_le (by have := World.block_lt_of_cell? _ _ hx260_0; first | rwa [add_block] at this | exact this) GW259.out); replace hx260_0 := (HB.out.cell (World.block_lt_of_cell? w _ hx260_0)).trans hx260_0; replace hx260_1 := (HB.out.cell (World.block_lt_of_cell? w _ hx260_1)).trans hx260_1; replace hx260_2 := (HB.out.cell (World.block_lt_of_cell? w _ hx260_2)).trans hx260_2; replace hx260_0 := (cell_far (p := ⟨gb259, 0, none⟩) (by first | (rw [add_block]; exact hn260_0) | (show (Addr.add _ _).block ≠ _; rw [add_block]; exact hn260_0) | exact hn260_0) (.int .i64 ((rd_T55 l0 x3_1).f0))).trans hx260_0; replace hx260_1 := (cell_far (p := ⟨gb259, 0, none⟩) (by first | (rw [add_block]; exact hn260_0) | (show (Addr.add _ _).block ≠ _; rw [add_block]; exact hn260_0) | exact hn260_0) (.int .i64 ((rd_T55 l0 x3_1).f0))).trans hx260_1; replace hx260_2 := (cell_far (p := ⟨gb259, 0, none⟩) (by first | (rw [add_block]; exact hn260_0) | (show (Addr.add _ _).block ≠ _; rw [add_block]; exact hn260_0) | exact hn260_0) (.int .i64 ((rd_T55 l0 x3_1).f0))).trans hx260_2; replace hx260_0 := (cell_far (p := ⟨gb259, 1, none⟩) (by first | (rw [add_block]; exact hn260_1) | (show (Addr.add _ _).block ≠ _; rw [add_block]; exact hn260_1) | exact hn260_1) (.int .i64 ((rd_T55 l0 x3_1).f1))).trans hx260_0; replace hx260_1 := (cell_far (p := ⟨gb259, 1, none⟩) (by first | (rw [add_block]; exact hn260_1) | (show (Addr.add _ _).block ≠ _; rw [add_block]; exact hn260_1) | exact hn260_1) (.int .i64 ((rd_T55 l0 x3_1).f1))).trans hx260_1; replace hx260_2 := (cell_far (p := ⟨gb259, 1, none⟩) (by first | (rw [add_block]; exact hn260_1) | (show (Addr.add _ _).block ≠ _; rw [add_block]; exact hn260_1) | exact hn260_1) (.int .i64 ((rd_T55 l0 x3_1).f1))).trans hx260_2; replace hx260_0 := (cell_far (p := ⟨gb259, 2, none⟩) (by first | (rw [add_block]; exact hn260_2) | (show (Addr.add _ _).block ≠ _; rw [add_block]; exact hn260_2) | exact hn260_2) (.int .i64 ((rd_T55 l0 x3_1).f2))).trans hx260_0; replace hx260_1 := (cell_far (p := ⟨gb259, 2, none⟩) (by first | (rw [add_block]; exact hn260_2) | (show (Addr.add _ _).block ≠ _; rw [add_block]; exact hn260_2) | exact hn260_2) (.int .i64 ((rd_T55 l0 x3_1).f2))).trans hx260_1; replace hx260_2 := (cell_far (p := ⟨gb259, 2, none⟩) (by first | (rw [add_block]; exact hn260_2) | (show (Addr.add _ _).block ≠ _; rw [add_block]; exact hn260_2) | exact hn260_2) (.int .i64 ((rd_T55 l0 x3_1).f2))).trans hx260_2; (try have hy260_0 := fun (n_ : Nat) => (show (((((w30.drewN n_).setCell ⟨gb259, 0, none⟩ (.int .i64 ((rd_T55 l0 x3_1).f0))).setCell ⟨gb259, 1, none⟩ (.int .i64 ((rd_T55 l0 x3_1).f1))).setCell ⟨gb259, 2, none⟩ (.int .i64 ((rd_T55 l0 x3_1).f2)))).cell? _ = some _ from hx260_0)); (try have hy260_1 := fun (n_ : Nat) => (show (((((w30.drewN n_).setCell ⟨gb259, 0, none⟩ (.int .i64 ((rd_T55 l0 x3_1).f0))).setCell ⟨gb259, 1, none⟩ (.int .i64 ((rd_T55 l0 x3_1).f1))).setCell ⟨gb259, 2, none⟩ (.int .i64 ((rd_T55 l0 x3_1).f2)))).cell? _ = some _ from hx260_1)); (try have hy260_2 := fun (n_ : Nat) => (show (((((w30.drewN n_).setCell ⟨gb259, 0, none⟩ (.int .i64 ((rd_T55 l0 x3_1).f0))).setCell ⟨gb259, 1, none⟩ (.int .i64 ((rd_T55 l0 x3_1).f1))).setCell ⟨gb259, 2, none⟩ (.int .i64 ((rd_T55 l0 x3_1).f2)))).cell? _ = some _ from hx260_2)); clear hn260_0; clear hn260_1; clear hn260_2; replace p260 := eq_true p260; replace q260 := eq_true q260))
                repeat (go_quiet (first | ((with_reducible refine gate_dst (N := 4) rfl ?_); refine box_event ?hg (N := 4) ?hd (cs := #[.int .i64 0, .int .i64 0, .int .i64 0]) (t := 55) ?hr ?_; (case hd => rfl); (case hg => rfl); (case hr => first | (go_simp; done) | (go_simp; rfl)); intro gb259 hg w30 hbox hb; have n0_ := Aside0.mk (below_step (bb_ HB) hb); have n1_ := Aside0.mk (hbox); have n2_ := Aside0.mk ((by rw [hg]; exact (below_size (bb_ HB)) : w.heap.size ≤ gb259)); have n3_ := Aside0.mk ((by rw [hg]; exact (below_size (bb_ HB)) : w.heap.size ≤ gb259)); clear HB; have HB := n0_; have BK259 := n1_; have GW259 := n2_; have GE259 := n3_; clear n0_ n1_ n2_ n3_; clear hb hbox hg; have hcz31_0 : w30.cell? ⟨gb259, 0, none⟩ = some (.int .i64 0) := (blk_cell BK259.out 0).trans rfl; have hcz31_1 : w30.cell? ⟨gb259, 1, none⟩ = some (.int .i64 0) := (blk_cell BK259.out 1).trans rfl; have hcz31_2 : w30.cell? ⟨gb259, 2, none⟩ = some (.int .i64 0) := (blk_cell BK259.out 2).trans rfl; have hfz31_0 := blk_frozen BK259.out 0; have hfz31_1 := blk_frozen BK259.out 1; have hfz31_2 := blk_frozen BK259.out 2; have p260 : 0 ≤ ((ji24) : Int) := od_; have q260 : (ji24) < (l0.length : Int) := od_; obtain ⟨ad260, e260, hx260_0, hx260_1, hx260_2⟩ := at_T55 HR0.out (ji24) p260 q260; obtain rfl : ad258 = ad260 := (by injection e260); have hn260_0 : ad258.block ≠ gb259 := Nat.ne_of_lt (Nat.lt_of_lt_of_le (by have := World.block_lt_of_cell? _ _ hx260_0; first | rwa [add_block] at this | exact this) GW259.out); have hn260_1 : ad258.block ≠ gb259 := Nat.ne_of_lt (Nat.lt_of_lt_of_le (by have := World.block_lt_of_cell? _ _ hx260_0; first | rwa [add_block] at this | exact this) GW259.out); have hn260_2 : ad258.block ≠ gb259 := Nat.ne_of_lt (Nat.lt_of_lt_of_le (by have := World.block_lt_of_cell? _ _ hx260_0; first | rwa [add_block] at this | exact this) GW259.out); replace hx260_0 := (HB.out.cell (World.block_lt_of_cell? w _ hx260_0)).trans hx260_0; replace hx260_1 := (HB.out.cell (World.block_lt_of_cell? w _ hx260_1)).trans hx260_1; replace hx260_2 := (HB.out.cell (World.block_lt_of_cell? w _ hx260_2)).trans hx260_2; replace hx260_0 := (cell_far (p := ⟨gb259, 0, none⟩) (by first | (rw [add_block]; exact hn260_0) | (show (Addr.add _ _).block ≠ _; rw [add_block]; exact hn260_0) | exact hn260_0) (.int .i64 ((rd_T55 l0 x3_1).f0))).trans hx260_0; replace hx260_1 := (cell_far (p := ⟨gb259, 0, none⟩) (by first | (rw [add_block]; exact hn260_0) | (show (Addr.add _ _).block ≠ _; rw [add_block]; exact hn260_0) | exact hn260_0) (.int .i64 ((rd_T55 l0 x3_1).f0))).trans hx260_1; replace hx260_2 := (cell_far (p := ⟨gb259, 0, none⟩) (by first | (rw [add_block]; exact hn260_0) | (show (Addr.add _ _).block ≠ _; rw [add_block]; exact hn260_0) | exact hn260_0) (.int .i64 ((rd_T55 l0 x3_1).f0))).trans hx260_2; replace hx260_0 := (cell_far (p := ⟨gb259, 1, none⟩) (by first | (rw [add_block]; exact hn260_1) | (show (Addr.add _ _).block ≠ _; rw [add_block]; exact hn260_1) | exact hn260_1) (.int .i64 ((rd_T55 l0 x3_1).f1))).trans hx260_0; replace hx260_1 := (cell_far (p := ⟨gb259, 1, none⟩) (by first | (rw [add_block]; exact hn260_1) | (show (Addr.add _ _).block ≠ _; rw [add_block]; exact hn260_1) | exact hn260_1) (.int .i64 ((rd_T55 l0 x3_1).f1))).trans hx260_1; replace hx260_2 := (cell_far (p := ⟨gb259, 1, none⟩) (by first | (rw [add_block]; exact hn260_1) | (show (Addr.add _ _).block ≠ _; rw [add_block]; exact hn260_1) | exact hn260_1) (.int .i64 ((rd_T55 l0 x3_1).f1))).trans hx260_2; replace hx260_0 := (cell_far (p := ⟨gb259, 2, none⟩) (by first | (rw [add_block]; exact hn260_2) | (show (Addr.add _ _).block ≠ _; rw [add_block]; exact hn260_2) | exact hn260_2) (.int .i64 ((rd_T55 l0 x3_1).f2))).trans hx260_0; replace hx260_1 := (cell_far (p := ⟨gb259, 2, none⟩) (by first | (rw [add_block]; exact hn260_2) | (show (Addr.add _ _).block ≠ _; rw [add_block]; exact hn260_2) | exact hn260_2) (.int .i64 ((rd_T55 l0 x3_1).f2))).trans hx260_1; replace hx260_2 := (cell_far (p := ⟨gb259, 2, none⟩) (by first | (rw [add_block]; exact hn260_2) | (show (Addr.add _ _).block ≠ _; rw [add_block]; exact hn260_2) | exact hn260_2) (.int .i64 ((rd_T55 l0 x3_1).f2))).trans hx260_2; (try have hy260_0 := fun (n_ : Nat) => (show (((((w30.drewN n_).setCell ⟨gb259, 0, none⟩ (.int .i64 ((rd_T55 l0 x3_1).f0))).setCell ⟨gb259, 1, none⟩ (.int .i64 ((rd_T55 l0 x3_1).f1))).setCell ⟨gb259, 2, none⟩ (.int .i64 ((rd_T55 l0 x3_1).f2)))).cell? _ = some _ from hx260_0)); (try have hy260_1 := fun (n_ : Nat) => (show (((((w30.drewN n_).setCell ⟨gb259, 0, none⟩ (.int .i64 ((rd_T55 l0 x3_1).f0))).setCell ⟨gb259, 1, none⟩ (.int .i64 ((rd_T55 l0 x3_1).f1))).setCell ⟨gb259, 2, none⟩ (.int .i64 ((rd_T55 l0 x3_1).f2)))).cell? _ = some _ from hx260_1)); (try have hy260_2 := fun (n_ : Nat) => (show (((((w30.drewN n_).setCell ⟨gb259, 0, none⟩ (.int .i64 ((rd_T55 l0 x3_1).f0))).setCell ⟨gb259, 1, none⟩ (.int .i64 ((rd_T55 l0 x3_1).f1))).setCell ⟨gb259, 2, none⟩ (.int .i64 ((rd_T55 l0 x3_1).f2)))).cell? _ = some _ from hx260_2)); clear hn260_0; clear hn260_1; clear hn260_2; replace p260 := eq_true p260; replace q260 := eq_true q260)); try go_wp2_with (first | ((with_reducible refine gate_dst (N := 4) rfl ?_); refine box_event ?hg (N := 4) ?hd (cs := #[.int .i64 0, .int .i64 0, .int .i64 0]) (t := 55) ?hr ?_; (case hd => rfl); (case hg => rfl); (case hr => first | (go_simp; done) | (go_simp; rfl)); intro gb259 hg w30 hbox hb; have n0_ := Aside0.mk (below_step (bb_ HB) hb); have n1_ := Aside0.mk (hbox); have n2_ := Aside0.mk ((by rw [hg]; exact (below_size (bb_ HB)) : w.heap.size ≤ gb259)); have n3_ := Aside0.mk ((by rw [hg]; exact (below_size (bb_ HB)) : w.heap.size ≤ gb259)); clear HB; have HB := n0_; have BK259 := n1_; have GW259 := n2_; have GE259 := n3_; clear n0_ n1_ n2_ n3_; clear hb hbox hg; have hcz31_0 : w30.cell? ⟨gb259, 0, none⟩ = some (.int .i64 0) := (blk_cell BK259.out 0).trans rfl; have hcz31_1 : w30.cell? ⟨gb259, 1, none⟩ = some (.int .i64 0) := (blk_cell BK259.out 1).trans rfl; have hcz31_2 : w30.cell? ⟨gb259, 2, none⟩ = some (.int .i64 0) := (blk_cell BK259.out 2).trans rfl; have hfz31_0 := blk_frozen BK259.out 0; have hfz31_1 := blk_frozen BK259.out 1; have hfz31_2 := blk_frozen BK259.out 2; have p260 : 0 ≤ ((ji24) : Int) := od_; have q260 : (ji24) < (l0.length : Int) := od_; obtain ⟨ad260, e260, hx260_0, hx260_1, hx260_2⟩ := at_T55 HR0.out (ji24) p260 q260; obtain rfl : ad258 = ad260 := (by injection e260); have hn260_0 : ad258.block ≠ gb259 := Nat.ne_of_lt (Nat.lt_of_lt_of_le (by have := World.block_lt_of_cell? _ _ hx260_0; first | rwa [add_block] at this | exact this) GW259.out); have hn260_1 : ad258.block ≠ gb259 := Nat.ne_of_lt (Nat.lt_of_lt_of_le (by have := World.block_lt_of_cell? _ _ hx260_0; first | rwa [add_block] at this | exact this) GW259.out); have hn260_2 : ad258.block ≠ gb259 := Nat.ne_of_lt (Nat.lt_of_lt_of_le (by have := World.block_lt_of_cell? _ _ hx260_0; first | rwa [add_block] at this | exact this) GW259.out); replace hx260_0 := (HB.out.cell (World.block_lt_of_cell? w _ hx260_0)).trans hx260_0; replace hx260_1 := (HB.out.cell (World.block_lt_of_cell? w _ hx260_1)).trans hx260_1; replace hx260_2 := (HB.out.cell (World.block_lt_of_cell? w _ hx260_2)).trans hx260_2; replace hx260_0 := (cell_far (p := ⟨gb259, 0, none⟩) (by first | (rw [add_block]; exact hn260_0) | (show (Addr.add _ _).block ≠ _; rw [add_block]; exact hn260_0) | exact hn260_0) (.int .i64 ((rd_T55 l0 x3_1).f0))).trans hx260_0; replace hx260_1 := (cell_far (p := ⟨gb259, 0, none⟩) (by first | (rw [add_block]; exact hn260_0) | (show (Addr.add _ _).block ≠ _; rw [add_block]; exact hn260_0) | exact hn260_0) (.int .i64 ((rd_T55 l0 x3_1).f0))).trans hx260_1; replace hx260_2 := (cell_far (p := ⟨gb259, 0, none⟩) (by first | (rw [add_block]; exact hn260_0) | (show (Addr.add _ _).block ≠ _; rw [add_block]; exact hn260_0) | exact hn260_0) (.int .i64 ((rd_T55 l0 x3_1).f0))).trans hx260_2; replace hx260_0 := (cell_far (p := ⟨gb259, 1, none⟩) (by first | (rw [add_block]; exact hn260_1) | (show (Addr.add _ _).block ≠ _; rw [add_block]; exact hn260_1) | exact hn260_1) (.int .i64 ((rd_T55 l0 x3_1).f1))).trans hx260_0; replace hx260_1 := (cell_far (p := ⟨gb259, 1, none⟩) (by first | (rw [add_block]; exact hn260_1) | (show (Addr.add _ _).block ≠ _; rw [add_block]; exact hn260_1) | exact hn260_1) (.int .i64 ((rd_T55 l0 x3_1).f1))).trans hx260_1; replace hx260_2 := (cell_far (p := ⟨gb259, 1, none⟩) (by first | (rw [add_block]; exact hn260_1) | (show (Addr.add _ _).block ≠ _; rw [add_block]; exact hn260_1) | exact hn260_1) (.int .i64 ((rd_T55 l0 x3_1).f1))).trans hx260_2; replace hx260_0 := (cell_far (p := ⟨gb259, 2, none⟩) (by first | (rw [add_block]; exact hn260_2) | (show (Addr.add _ _).block ≠ _; rw [add_block]; exact hn260_2) | exact hn260_2) (.int .i64 ((rd_T55 l0 x3_1).f2))).trans hx260_0; replace hx260_1 := (cell_far (p := ⟨gb259, 2, none⟩) (by first | (rw [add_block]; exact hn260_2) | (show (Addr.add _ _).block ≠ _; rw [add_block]; exact hn260_2) | exact hn260_2) (.int .i64 ((rd_T55 l0 x3_1).f2))).trans hx260_1; replace hx260_2 := (cell_far (p := ⟨gb259, 2, none⟩) (by first | (rw [add_block]; exact hn260_2) | (show (Addr.add _ _).block ≠ _; rw [add_block]; exact hn260_2) | exact hn260_2) (.int .i64 ((rd_T55 l0 x3_1).f2))).trans hx260_2; (try have hy260_0 := fun (n_ : Nat) => (show (((((w30.drewN n_).setCell ⟨gb259, 0, none⟩ (.int .i64 ((rd_T55 l0 x3_1).f0))).setCell ⟨gb259, 1, none⟩ (.int .i64 ((rd_T55 l0 x3_1).f1))).setCell ⟨gb259, 2, none⟩ (.int .i64 ((rd_T55 l0 x3_1).f2)))).cell? _ = some _ from hx260_0)); (try have hy260_1 := fun (n_ : Nat) => (show (((((w30.drewN n_).setCell ⟨gb259, 0, none⟩ (.int .i64 ((rd_T55 l0 x3_1).f0))).setCell ⟨gb259, 1, none⟩ (.int .i64 ((rd_T55 l0 x3_1).f1))).setCell ⟨gb259, 2, none⟩ (.int .i64 ((rd_T55 l0 x3_1).f2)))).cell? _ = some _ from hx260_1)); (try have hy260_2 := fun (n_ : Nat) => (show (((((w30.drewN n_).setCell ⟨gb259, 0, none⟩ (.int .i64 ((rd_T55 l0 x3_1).f0))).setCell ⟨gb259, 1, none⟩ (.int .i64 ((rd_T55 l0 x3_1).f1))).setCell ⟨gb259, 2, none⟩ (.int .i64 ((rd_T55 l0 x3_1).f2)))).cell? _ = some _ from hx260_2)); clear hn260_0; clear hn260_1; clear hn260_2; replace p260 := eq_true p260; replace q260 := eq_true q260)))
                go_roundg k1
                case measure => have := HK1.out; omega
                case rel => exact ⟨(wrap64 (x3_1 + 1)), sd_, H', ⟨by have := HK1.out; omega⟩, ⟨by repeat (first | (with_reducible first | exact HB.out | apply below_alloc | apply pw_below_drewN | apply below_drew1 | refine below_set ?_ GE259.out) | exact HB.out)⟩⟩
              ·rw [if_neg c26] at H
               exact absurd H (by simp)
             ·rw [if_neg c25] at H
              exact absurd H (by simp)
            ·rw [if_neg c23] at H
             have c23b0 : decide (0 < x3_1) = false := decide_eq_false c23
             clear c23
             have H' := Aside0.mk H
             clear H
             have p258 : 0 ≤ (x3_1 : Int) := od_
             have q258 : x3_1 < (l0.length : Int) := od_
             obtain ⟨ad258, e258, hx258_0, hx258_1, hx258_2⟩ := at_T55 HR0.out x3_1 p258 q258
             cases e258
             replace hx258_0 := (HB.out.cell (World.block_lt_of_cell? w _ hx258_0)).trans hx258_0
             replace hx258_1 := (HB.out.cell (World.block_lt_of_cell? w _ hx258_1)).trans hx258_1
             replace hx258_2 := (HB.out.cell (World.block_lt_of_cell? w _ hx258_2)).trans hx258_2
             replace p258 := eq_true p258
             replace q258 := eq_true q258
             go_wp2_with (first | ((with_reducible refine gate_dst (N := 4) rfl ?_); refine box_event ?hg (N := 4) ?hd (cs := #[.int .i64 0, .int .i64 0, .int .i64 0]) (t := 55) ?hr ?_; (case hd => rfl); (case hg => rfl); (case hr => first | (go_simp; done) | (go_simp; rfl)); intro gb259 hg w32 hbox hb; have n0_ := Aside0.mk (below_step (bb_ HB) hb); have n1_ := Aside0.mk (hbox); have n2_ := Aside0.mk ((by rw [hg]; exact (below_size (bb_ HB)) : w.heap.size ≤ gb259)); have n3_ := Aside0.mk ((by rw [hg]; exact (below_size (bb_ HB)) : w.heap.size ≤ gb259)); clear HB; have HB := n0_; have BK259 := n1_; have GW259 := n2_; have GE259 := n3_; clear n0_ n1_ n2_ n3_; clear hb hbox hg; have hcz33_0 : w32.cell? ⟨gb259, 0, none⟩ = some (.int .i64 0) := (blk_cell BK259.out 0).trans rfl; have hcz33_1 : w32.cell? ⟨gb259, 1, none⟩ = some (.int .i64 0) := (blk_cell BK259.out 1).trans rfl; have hcz33_2 : w32.cell? ⟨gb259, 2, none⟩ = some (.int .i64 0) := (blk_cell BK259.out 2).trans rfl; have hfz33_0 := blk_frozen BK259.out 0; have hfz33_1 := blk_frozen BK259.out 1; have hfz33_2 := blk_frozen BK259.out 2))
             repeat (go_quiet (first | ((with_reducible refine gate_dst (N := 4) rfl ?_); refine box_event ?hg (N := 4) ?hd (cs := #[.int .i64 0, .int .i64 0, .int .i64 0]) (t := 55) ?hr ?_; (case hd => rfl); (case hg => rfl); (case hr => first | (go_simp; done) | (go_simp; rfl)); intro gb259 hg w32 hbox hb; have n0_ := Aside0.mk (below_step (bb_ HB) hb); have n1_ := Aside0.mk (hbox); have n2_ := Aside0.mk ((by rw [hg]; exact (below_size (bb_ HB)) : w.heap.size ≤ gb259)); have n3_ := Aside0.mk ((by rw [hg]; exact (below_size (bb_ HB)) : w.heap.size ≤ gb259)); clear HB; have HB := n0_; have BK259 := n1_; have GW259 := n2_; have GE259 := n3_; clear n0_ n1_ n2_ n3_; clear hb hbox hg; have hcz33_0 : w32.cell? ⟨gb259, 0, none⟩ = some (.int .i64 0) := (blk_cell BK259.out 0).trans rfl; have hcz33_1 : w32.cell? ⟨gb259, 1, none⟩ = some (.int .i64 0) := (blk_cell BK259.out 1).trans rfl; have hcz33_2 : w32.cell? ⟨gb259, 2, none⟩ = some (.int .i64 0) := (blk_cell BK259.out 2).trans rfl; have hfz33_0 := blk_frozen BK259.out 0; have hfz33_1 := blk_frozen BK259.out 1; have hfz33_2 := blk_frozen BK259.out 2)); try go_wp2_with (first | ((with_reducible refine gate_dst (N := 4) rfl ?_); refine box_event ?hg (N := 4) ?hd (cs := #[.int .i64 0, .int .i64 0, .int .i64 0]) (t := 55) ?hr ?_; (case hd => rfl); (case hg => rfl); (case hr => first | (go_simp; done) | (go_simp; rfl)); intro gb259 hg w32 hbox hb; have n0_ := Aside0.mk (below_step (bb_ HB) hb); have n1_ := Aside0.mk (hbox); have n2_ := Aside0.mk ((by rw [hg]; exact (below_size (bb_ HB)) : w.heap.size ≤ gb259)); have n3_ := Aside0.mk ((by rw [hg]; exact (below_size (bb_ HB)) : w.heap.size ≤ gb259)); clear HB; have HB := n0_; have BK259 := n1_; have GW259 := n2_; have GE259 := n3_; clear n0_ n1_ n2_ n3_; clear hb hbox hg; have hcz33_0 : w32.cell? ⟨gb259, 0, none⟩ = some (.int .i64 0) := (blk_cell BK259.out 0).trans rfl; have hcz33_1 : w32.cell? ⟨gb259, 1, none⟩ = some (.int .i64 0) := (blk_cell BK259.out 1).trans rfl; have hcz33_2 : w32.cell? ⟨gb259, 2, none⟩ = some (.int .i64 0) := (blk_cell BK259.out 2).trans rfl; have hfz33_0 := blk_frozen BK259.out 0; have hfz33_1 := blk_frozen BK259.out 1; have hfz33_2 := blk_frozen BK259.out 2)))
             go_roundg k1
             case measure => have := HK1.out; omega
             case rel => exact ⟨(wrap64 (x3_1 + 1)), sd_, H', ⟨by have := HK1.out; omega⟩, ⟨by repeat (first | (with_reducible first | exact HB.out | apply below_alloc | apply pw_below_drewN | apply below_drew1 | refine below_set ?_ GE259.out) | exact HB.out)⟩⟩
     ·rw [if_neg c4] at H
      exact absurd H (by simp)
    ·rw [if_neg c3] at H
     have c3b0 : decide (x3_1 < (l0.length : Int)) = false := decide_eq_false c3
     clear c3
     obtain rfl := Option.some.inj H
     go_wp2
     repeat (go_quiet (fail); try go_wp2)
     go_ret
     exact ⟨ew_, by repeat (first | (with_reducible first | exact HB.out | apply below_alloc | apply pw_below_drewN | apply below_drew1) | exact HB.out)⟩
end
section
def cohousinglaw26_usable.f (k : Nat) (l0_0 : List (S84)) (l0_1 : List (S46)) (l1 : List (S49)) (l2 : List (S55)) : Option (Bool) := (cohousingref23_Few.f k l0_0 l0_1).bind fun t380 => (if t380 = true then ((cohousingref26_Few.f k l1 l2).bind fun t381 => (if t381 = true then ((cohousingref23_Valid.f k l0_0 l0_1).bind fun t382 => (if t382 = true then ((cohousingref26_Rings.f k l0_0 l0_1 l1).bind fun t383 => (if t383 = true then ((cohousingref26_Replies.f k l2).bind fun t384 => (some t384)) else (some false))) else (some false))) else (some false))) else (some false))
theorem cohousinglaw26_usable.calls (k : Nat) (A0_0 : Option Addr) (c0_0 : Nat) (l0_0 : List (S84)) (A0_1 : Option Addr) (c0_1 : Nat) (l0_1 : List (S46)) (A1 : Option Addr) (c1 : Nat) (l1 : List (S49)) (A2 : Option Addr) (c2 : Nat) (l2 : List (S55)) (r : Bool) (w : World) (hr0_0 : Kd.C k84 w A0_0 l0_0.length l0_0) (hc0_0 : l0_0.length ≤ c0_0) (hr0_1 : Kd.C k46 w A0_1 l0_1.length l0_1) (hc0_1 : l0_1.length ≤ c0_1) (hr1 : Kd.C k49 w A1 l1.length l1) (hc1 : l1.length ≤ c1) (hr2 : Kd.C k55 w A2 l2.length l2) (hc2 : l2.length ≤ c2) (h : cohousinglaw26_usable.f k l0_0 l0_1 l1 l2 = some r) :
  Calls Try.prog 20 #[.agg #[.slice A0_0 l0_0.length c0_0, .slice A0_1 l0_1.length c0_1], .slice A1 l1.length c1, .slice A2 l2.length c2] w fun e w' => e = .returned (.bool r) ∧ Below w.heap.size w w' := by
 have hu25 := Try.underlying25
 have HR0_0 := Aside0.mk hr0_0
 have HC0_0 := Aside0.mk hc0_0
 clear hr0_0 hc0_0
 have HR0_1 := Aside0.mk hr0_1
 have HC0_1 := Aside0.mk hc0_1
 clear hr0_1 hc0_1
 have HR1 := Aside0.mk hr1
 have HC1 := Aside0.mk hc1
 clear hr1 hc1
 have HR2 := Aside0.mk hr2
 have HC2 := Aside0.mk hc2
 clear hr2 hc2
 have HB := Aside0.mk (Below.refl w.heap.size w)
 have H : ((cohousingref23_Few.f k l0_0 l0_1).bind fun t380 => (if t380 = true then ((cohousingref26_Few.f k l1 l2).bind fun t381 => (if t381 = true then ((cohousingref23_Valid.f k l0_0 l0_1).bind fun t382 => (if t382 = true then ((cohousingref26_Rings.f k l0_0 l0_1 l1).bind fun t383 => (if t383 = true then ((cohousingref26_Replies.f k l2).bind fun t384 => (some t384)) else (some false))) else (some false))) else (some false))) else (some false))) = some r := h
 clear h
 replace H := Option.bind_eq_some_iff.mp H
 obtain ⟨t380, A40, H⟩ := H
 replace H : (if t380 = true then ((cohousingref26_Few.f k l1 l2).bind fun t381 => (if t381 = true then ((cohousingref23_Valid.f k l0_0 l0_1).bind fun t382 => (if t382 = true then ((cohousingref26_Rings.f k l0_0 l0_1 l1).bind fun t383 => (if t383 = true then ((cohousingref26_Replies.f k l2).bind fun t384 => (some t384)) else (some false))) else (some false))) else (some false))) else (some false)) = some r := H
 have A4 := Aside0.mk A40
 clear A40
 by_cases c5 : t380 = true
 ·subst c5
  have H1 : ((cohousingref26_Few.f k l1 l2).bind fun t381 => (if t381 = true then ((cohousingref23_Valid.f k l0_0 l0_1).bind fun t382 => (if t382 = true then ((cohousingref26_Rings.f k l0_0 l0_1 l1).bind fun t383 => (if t383 = true then ((cohousingref26_Replies.f k l2).bind fun t384 => (some t384)) else (some false))) else (some false))) else (some false))) = some r := by rw [if_pos rfl] at H; exact H
  clear H
  have H := H1
  clear H1
  replace H := Option.bind_eq_some_iff.mp H
  obtain ⟨t381, A60, H⟩ := H
  replace H : (if t381 = true then ((cohousingref23_Valid.f k l0_0 l0_1).bind fun t382 => (if t382 = true then ((cohousingref26_Rings.f k l0_0 l0_1 l1).bind fun t383 => (if t383 = true then ((cohousingref26_Replies.f k l2).bind fun t384 => (some t384)) else (some false))) else (some false))) else (some false)) = some r := H
  have A6 := Aside0.mk A60
  clear A60
  by_cases c7 : t381 = true
  ·subst c7
   have H1 : ((cohousingref23_Valid.f k l0_0 l0_1).bind fun t382 => (if t382 = true then ((cohousingref26_Rings.f k l0_0 l0_1 l1).bind fun t383 => (if t383 = true then ((cohousingref26_Replies.f k l2).bind fun t384 => (some t384)) else (some false))) else (some false))) = some r := by rw [if_pos rfl] at H; exact H
   clear H
   have H := H1
   clear H1
   replace H := Option.bind_eq_some_iff.mp H
   obtain ⟨t382, A80, H⟩ := H
   replace H : (if t382 = true then ((cohousingref26_Rings.f k l0_0 l0_1 l1).bind fun t383 => (if t383 = true then ((cohousingref26_Replies.f k l2).bind fun t384 => (some t384)) else (some false))) else (some false)) = some r := H
   have A8 := Aside0.mk A80
   clear A80
   by_cases c9 : t382 = true
   ·subst c9
    have H1 : ((cohousingref26_Rings.f k l0_0 l0_1 l1).bind fun t383 => (if t383 = true then ((cohousingref26_Replies.f k l2).bind fun t384 => (some t384)) else (some false))) = some r := by rw [if_pos rfl] at H; exact H
    clear H
    have H := H1
    clear H1
    replace H := Option.bind_eq_some_iff.mp H
    obtain ⟨t383, A100, H⟩ := H
    replace H : (if t383 = true then ((cohousingref26_Replies.f k l2).bind fun t384 => (some t384)) else (some false)) = some r := H
    have A10 := Aside0.mk A100
    clear A100
    by_cases c11 : t383 = true
    ·subst c11
     have H1 : ((cohousingref26_Replies.f k l2).bind fun t384 => (some t384)) = some r := by rw [if_pos rfl] at H; exact H
     clear H
     have H := H1
     clear H1
     replace H := Option.bind_eq_some_iff.mp H
     obtain ⟨t384, A120, H⟩ := H
     replace H : (some t384) = some r := H
     have A12 := Aside0.mk A120
     clear A120
     obtain rfl := Option.some.inj H
     go_enter Try.func20, Try.ntmps20
     go_wp2_with (first | ((with_reducible refine gate_dst (N := 3) rfl ?_); refine box_event ?hg (N := 3) ?hd (cs := #[.slice A0_0 l0_0.length c0_0, .slice A0_1 l0_1.length c0_1]) (t := 25) ?hr ?_; (case hd => rfl); (case hg => rfl); (case hr => first | (go_simp; done) | (go_simp; rfl)); intro gb379 hg w13 hbox hb; have n0_ := Aside0.mk (below_step (bb_ HB) hb); have n1_ := Aside0.mk (hbox); have n2_ := Aside0.mk ((by rw [hg]; exact (below_size (bb_ HB)) : w.heap.size ≤ gb379)); have n3_ := Aside0.mk ((by rw [hg]; exact (below_size (bb_ HB)) : w.heap.size ≤ gb379)); clear HB; have HB := n0_; have BK379 := n1_; have GW379 := n2_; have GE379 := n3_; clear n0_ n1_ n2_ n3_; clear hb hbox hg; have hcz14_0 : w13.cell? ⟨gb379, 0, none⟩ = some (.slice A0_0 l0_0.length c0_0) := (blk_cell BK379.out 0).trans rfl; have hcz14_1 : w13.cell? ⟨gb379, 1, none⟩ = some (.slice A0_1 l0_1.length c0_1) := (blk_cell BK379.out 1).trans rfl; have hfz14_0 := blk_frozen BK379.out 0; have hfz14_1 := blk_frozen BK379.out 1) | ((with_reducible refine gate_callee (f := 11) rfl ?_); refine gl_ (some 8) Try.func11 #[.agg #[.slice A0_0 l0_0.length c0_0, .slice A0_1 l0_1.length c0_1]] ?_; (with_reducible refine (cohousingref23_Few.calls k _ _ l0_0 _ _ l0_1 true _ ?side1 ?side2 ?side3 ?side4 A4.out).mono ?_); (case side1 => exact cc_ ((Kd.C_below HR0_0.out HB.out))); (case side2 => exact HC0_0.out); (case side3 => exact cc_ ((Kd.C_below HR0_1.out HB.out))); (case side4 => exact HC0_1.out); rintro e w15 ⟨rfl, hb⟩; refine ⟨_, rfl, ?_⟩; have n0_ := Aside0.mk (blk_below (g := gb379) (o := .cells #[.slice A0_0 l0_0.length c0_0, .slice A0_1 l0_1.length c0_1] 25 (0, 0)) (kk_ BK379) hb); have n1_ := Aside0.mk (below_step (bs_ HB GE379.out) hb); clear BK379; clear HB; have BK379 := n0_; have HB := n1_; clear n0_ n1_; (try clear hb); (try clear hb2); (try clear hk); (try clear hi)) | (go_at_call 12; (with_reducible refine (cohousingref26_Few.calls k _ _ l1 _ _ l2 true _ ?side1 ?side2 ?side3 ?side4 A6.out).mono ?_); (case side1 => exact cc_ ((Kd.C_below HR1.out HB.out))); (case side2 => exact HC1.out); (case side3 => exact cc_ ((Kd.C_below HR2.out HB.out))); (case side4 => exact HC2.out); rintro e w' ⟨rfl, ⟨nd, rfl⟩⟩; have hcz16_0 : w15.cell? ⟨gb379, 0, none⟩ = some (.slice A0_0 l0_0.length c0_0) := (blk_cell BK379.out 0).trans rfl; have hcz16_1 : w15.cell? ⟨gb379, 1, none⟩ = some (.slice A0_1 l0_1.length c0_1) := (blk_cell BK379.out 1).trans rfl; have hfz16_0 := blk_frozen BK379.out 0; have hfz16_1 := blk_frozen BK379.out 1) | (go_at_call 25; (with_reducible refine (cohousingref23_Valid.calls k _ _ l0_0 _ _ l0_1 true _ ?side1 ?side2 ?side3 ?side4 A8.out).mono ?_); (case side1 => exact cc_ ((Kd.C_below HR0_0.out (bs_ HB GE379.out)))); (case side2 => exact HC0_0.out); (case side3 => exact cc_ ((Kd.C_below HR0_1.out (bs_ HB GE379.out)))); (case side4 => exact HC0_1.out); rintro e w17 ⟨rfl, hb⟩; have n0_ := Aside0.mk (blk_below (g := gb379) (o := .cells #[.slice A0_0 l0_0.length c0_0, .slice A0_1 l0_1.length c0_1] 25 (0, 0)) (kk_ BK379) hb); have n1_ := Aside0.mk (below_step (bs_ HB GE379.out) hb); clear BK379; clear HB; have BK379 := n0_; have HB := n1_; clear n0_ n1_; (try clear hb); (try clear hb2); (try clear hk); (try clear hi); have hcz18_0 : w17.cell? ⟨gb379, 0, none⟩ = some (.slice A0_0 l0_0.length c0_0) := (blk_cell BK379.out 0).trans rfl; have hcz18_1 : w17.cell? ⟨gb379, 1, none⟩ = some (.slice A0_1 l0_1.length c0_1) := (blk_cell BK379.out 1).trans rfl; have hfz18_0 := blk_frozen BK379.out 0; have hfz18_1 := blk_frozen BK379.out 1) | (go_at_call 35; (with_reducible refine (cohousingref26_Rings.calls k _ _ l0_0 _ _ l0_1 _ _ l1 true _ ?side1 ?side2 ?side3 ?side4 ?side5 ?side6 A10.out).mono ?_); (case side1 => exact cc_ ((Kd.C_below HR0_0.out HB.out))); (case side2 => exact HC0_0.out); (case side3 => exact cc_ ((Kd.C_below HR0_1.out HB.out))); (case side4 => exact HC0_1.out); (case side5 => exact cc_ ((Kd.C_below HR1.out HB.out))); (case side6 => exact HC1.out); rintro e w19 ⟨rfl, hb⟩; have n0_ := Aside0.mk (blk_below (g := gb379) (o := .cells #[.slice A0_0 l0_0.length c0_0, .slice A0_1 l0_1.length c0_1] 25 (0, 0)) (kk_ BK379) hb); have n1_ := Aside0.mk (below_step (bs_ HB GE379.out) hb); clear BK379; clear HB; have BK379 := n0_; have HB := n1_; clear n0_ n1_; (try clear hb); (try clear hb2); (try clear hk); (try clear hi)) | (go_at_call 36; (with_reducible refine (cohousingref26_Replies.calls k _ _ l2 t384 _ ?side1 ?side2 A12.out).mono ?_); (case side1 => exact cc_ ((Kd.C_below HR2.out HB.out))); (case side2 => exact HC2.out); rintro e w20 ⟨rfl, hb⟩; have n0_ := Aside0.mk (blk_below (g := gb379) (o := .cells #[.slice A0_0 l0_0.length c0_0, .slice A0_1 l0_1.length c0_1] 25 (0, 0)) (kk_ BK379) hb); have n1_ := Aside0.mk (below_step (bs_ HB GE379.out) hb); clear BK379; clear HB; have BK379 := n0_; have HB := n1_; clear n0_ n1_; (try clear hb); (try clear hb2); (try clear hk); (try clear hi)))
     go_ret
     exact ⟨ew_, by repeat (first | (with_reducible first | exact HB.out | apply below_alloc | apply pw_below_drewN | apply below_drew1 | refine below_set ?_ GE379.out) | exact HB.out)⟩
    ·replace c11 := Bool.eq_false_iff.mpr c11
     subst c11
     have H1 : (some false) = some r := by rw [if_neg (show ¬ (false = true) by decide)] at H; exact H
     clear H
     have H := H1
     clear H1
     obtain rfl := Option.some.inj H
     go_enter Try.func20, Try.ntmps20
     go_wp2_with (first | ((with_reducible refine gate_dst (N := 3) rfl ?_); refine box_event ?hg (N := 3) ?hd (cs := #[.slice A0_0 l0_0.length c0_0, .slice A0_1 l0_1.length c0_1]) (t := 25) ?hr ?_; (case hd => rfl); (case hg => rfl); (case hr => first | (go_simp; done) | (go_simp; rfl)); intro gb379 hg w21 hbox hb; have n0_ := Aside0.mk (below_step (bb_ HB) hb); have n1_ := Aside0.mk (hbox); have n2_ := Aside0.mk ((by rw [hg]; exact (below_size (bb_ HB)) : w.heap.size ≤ gb379)); have n3_ := Aside0.mk ((by rw [hg]; exact (below_size (bb_ HB)) : w.heap.size ≤ gb379)); clear HB; have HB := n0_; have BK379 := n1_; have GW379 := n2_; have GE379 := n3_; clear n0_ n1_ n2_ n3_; clear hb hbox hg; have hcz22_0 : w21.cell? ⟨gb379, 0, none⟩ = some (.slice A0_0 l0_0.length c0_0) := (blk_cell BK379.out 0).trans rfl; have hcz22_1 : w21.cell? ⟨gb379, 1, none⟩ = some (.slice A0_1 l0_1.length c0_1) := (blk_cell BK379.out 1).trans rfl; have hfz22_0 := blk_frozen BK379.out 0; have hfz22_1 := blk_frozen BK379.out 1) | ((with_reducible refine gate_callee (f := 11) rfl ?_); refine gl_ (some 8) Try.func11 #[.agg #[.slice A0_0 l0_0.length c0_0, .slice A0_1 l0_1.length c0_1]] ?_; (with_reducible refine (cohousingref23_Few.calls k _ _ l0_0 _ _ l0_1 true _ ?side1 ?side2 ?side3 ?side4 A4.out).mono ?_); (case side1 => exact cc_ ((Kd.C_below HR0_0.out HB.out))); (case side2 => exact HC0_0.out); (case side3 => exact cc_ ((Kd.C_below HR0_1.out HB.out))); (case side4 => exact HC0_1.out); rintro e w23 ⟨rfl, hb⟩; refine ⟨_, rfl, ?_⟩; have n0_ := Aside0.mk (blk_below (g := gb379) (o := .cells #[.slice A0_0 l0_0.length c0_0, .slice A0_1 l0_1.length c0_1] 25 (0, 0)) (kk_ BK379) hb); have n1_ := Aside0.mk (below_step (bs_ HB GE379.out) hb); clear BK379; clear HB; have BK379 := n0_; have HB := n1_; clear n0_ n1_; (try clear hb); (try clear hb2); (try clear hk); (try clear hi)) | (go_at_call 12; (with_reducible refine (cohousingref26_Few.calls k _ _ l1 _ _ l2 true _ ?side1 ?side2 ?side3 ?side4 A6.out).mono ?_); (case side1 => exact cc_ ((Kd.C_below HR1.out HB.out))); (case side2 => exact HC1.out); (case side3 => exact cc_ ((Kd.C_below HR2.out HB.out))); (case side4 => exact HC2.out); rintro e w' ⟨rfl, ⟨nd, rfl⟩⟩; have hcz24_0 : w23.cell? ⟨gb379, 0, none⟩ = some (.slice A0_0 l0_0.length c0_0) := (blk_cell BK379.out 0).trans rfl; have hcz24_1 : w23.cell? ⟨gb379, 1, none⟩ = some (.slice A0_1 l0_1.length c0_1) := (blk_cell BK379.out 1).trans rfl; have hfz24_0 := blk_frozen BK379.out 0; have hfz24_1 := blk_frozen BK379.out 1) | (go_at_call 25; (with_reducible refine (cohousingref23_Valid.calls k _ _ l0_0 _ _ l0_1 true _ ?side1 ?side2 ?side3 ?side4 A8.out).mono ?_); (case side1 => exact cc_ ((Kd.C_below HR0_0.out (bs_ HB GE379.out)))); (case side2 => exact HC0_0.out); (case side3 => exact cc_ ((Kd.C_below HR0_1.out (bs_ HB GE379.out)))); (case side4 => exact HC0_1.out); rintro e w25 ⟨rfl, hb⟩; have n0_ := Aside0.mk (blk_below (g := gb379) (o := .cells #[.slice A0_0 l0_0.length c0_0, .slice A0_1 l0_1.length c0_1] 25 (0, 0)) (kk_ BK379) hb); have n1_ := Aside0.mk (below_step (bs_ HB GE379.out) hb); clear BK379; clear HB; have BK379 := n0_; have HB := n1_; clear n0_ n1_; (try clear hb); (try clear hb2); (try clear hk); (try clear hi); have hcz26_0 : w25.cell? ⟨gb379, 0, none⟩ = some (.slice A0_0 l0_0.length c0_0) := (blk_cell BK379.out 0).trans rfl; have hcz26_1 : w25.cell? ⟨gb379, 1, none⟩ = some (.slice A0_1 l0_1.length c0_1) := (blk_cell BK379.out 1).trans rfl; have hfz26_0 := blk_frozen BK379.out 0; have hfz26_1 := blk_frozen BK379.out 1) | (go_at_call 35; (with_reducible refine (cohousingref26_Rings.calls k _ _ l0_0 _ _ l0_1 _ _ l1 false _ ?side1 ?side2 ?side3 ?side4 ?side5 ?side6 A10.out).mono ?_); (case side1 => exact cc_ ((Kd.C_below HR0_0.out HB.out))); (case side2 => exact HC0_0.out); (case side3 => exact cc_ ((Kd.C_below HR0_1.out HB.out))); (case side4 => exact HC0_1.out); (case side5 => exact cc_ ((Kd.C_below HR1.out HB.out))); (case side6 => exact HC1.out); rintro e w27 ⟨rfl, hb⟩; have n0_ := Aside0.mk (blk_below (g := gb379) (o := .cells #[.slice A0_0 l0_0.length c0_0, .slice A0_1 l0_1.length c0_1] 25 (0, 0)) (kk_ BK379) hb); have n1_ := Aside0.mk (below_step (bs_ HB GE379.out) hb); clear BK379; clear HB; have BK379 := n0_; have HB := n1_; clear n0_ n1_; (try clear hb); (try clear hb2); (try clear hk); (try clear hi)))
     go_ret
     exact ⟨ew_, by repeat (first | (with_reducible first | exact HB.out | apply below_alloc | apply pw_below_drewN | apply below_drew1 | refine below_set ?_ GE379.out) | exact HB.out)⟩
   ·replace c9 := Bool.eq_false_iff.mpr c9
    subst c9
    have H1 : (some false) = some r := by rw [if_neg (show ¬ (false = true) by decide)] at H; exact H
    clear H
    have H := H1
    clear H1
    obtain rfl := Option.some.inj H
    go_enter Try.func20, Try.ntmps20
    go_wp2_with (first | ((with_reducible refine gate_dst (N := 3) rfl ?_); refine box_event ?hg (N := 3) ?hd (cs := #[.slice A0_0 l0_0.length c0_0, .slice A0_1 l0_1.length c0_1]) (t := 25) ?hr ?_; (case hd => rfl); (case hg => rfl); (case hr => first | (go_simp; done) | (go_simp; rfl)); intro gb379 hg w28 hbox hb; have n0_ := Aside0.mk (below_step (bb_ HB) hb); have n1_ := Aside0.mk (hbox); have n2_ := Aside0.mk ((by rw [hg]; exact (below_size (bb_ HB)) : w.heap.size ≤ gb379)); have n3_ := Aside0.mk ((by rw [hg]; exact (below_size (bb_ HB)) : w.heap.size ≤ gb379)); clear HB; have HB := n0_; have BK379 := n1_; have GW379 := n2_; have GE379 := n3_; clear n0_ n1_ n2_ n3_; clear hb hbox hg; have hcz29_0 : w28.cell? ⟨gb379, 0, none⟩ = some (.slice A0_0 l0_0.length c0_0) := (blk_cell BK379.out 0).trans rfl; have hcz29_1 : w28.cell? ⟨gb379, 1, none⟩ = some (.slice A0_1 l0_1.length c0_1) := (blk_cell BK379.out 1).trans rfl; have hfz29_0 := blk_frozen BK379.out 0; have hfz29_1 := blk_frozen BK379.out 1) | ((with_reducible refine gate_callee (f := 11) rfl ?_); refine gl_ (some 8) Try.func11 #[.agg #[.slice A0_0 l0_0.length c0_0, .slice A0_1 l0_1.length c0_1]] ?_; (with_reducible refine (cohousingref23_Few.calls k _ _ l0_0 _ _ l0_1 true _ ?side1 ?side2 ?side3 ?side4 A4.out).mono ?_); (case side1 => exact cc_ ((Kd.C_below HR0_0.out HB.out))); (case side2 => exact HC0_0.out); (case side3 => exact cc_ ((Kd.C_below HR0_1.out HB.out))); (case side4 => exact HC0_1.out); rintro e w30 ⟨rfl, hb⟩; refine ⟨_, rfl, ?_⟩; have n0_ := Aside0.mk (blk_below (g := gb379) (o := .cells #[.slice A0_0 l0_0.length c0_0, .slice A0_1 l0_1.length c0_1] 25 (0, 0)) (kk_ BK379) hb); have n1_ := Aside0.mk (below_step (bs_ HB GE379.out) hb); clear BK379; clear HB; have BK379 := n0_; have HB := n1_; clear n0_ n1_; (try clear hb); (try clear hb2); (try clear hk); (try clear hi)) | (go_at_call 12; (with_reducible refine (cohousingref26_Few.calls k _ _ l1 _ _ l2 true _ ?side1 ?side2 ?side3 ?side4 A6.out).mono ?_); (case side1 => exact cc_ ((Kd.C_below HR1.out HB.out))); (case side2 => exact HC1.out); (case side3 => exact cc_ ((Kd.C_below HR2.out HB.out))); (case side4 => exact HC2.out); rintro e w' ⟨rfl, ⟨nd, rfl⟩⟩; have hcz31_0 : w30.cell? ⟨gb379, 0, none⟩ = some (.slice A0_0 l0_0.length c0_0) := (blk_cell BK379.out 0).trans rfl; have hcz31_1 : w30.cell? ⟨gb379, 1, none⟩ = some (.slice A0_1 l0_1.length c0_1) := (blk_cell BK379.out 1).trans rfl; have hfz31_0 := blk_frozen BK379.out 0; have hfz31_1 := blk_frozen BK379.out 1) | (go_at_call 25; (with_reducible refine (cohousingref23_Valid.calls k _ _ l0_0 _ _ l0_1 false _ ?side1 ?side2 ?side3 ?side4 A8.out).mono ?_); (case side1 => exact cc_ ((Kd.C_below HR0_0.out (bs_ HB GE379.out)))); (case side2 => exact HC0_0.out); (case side3 => exact cc_ ((Kd.C_below HR0_1.out (bs_ HB GE379.out)))); (case side4 => exact HC0_1.out); rintro e w32 ⟨rfl, hb⟩; have n0_ := Aside0.mk (blk_below (g := gb379) (o := .cells #[.slice A0_0 l0_0.length c0_0, .slice A0_1 l0_1.length c0_1] 25 (0, 0)) (kk_ BK379) hb); have n1_ := Aside0.mk (below_step (bs_ HB GE379.out) hb); clear BK379; clear HB; have BK379 := n0_; have HB := n1_; clear n0_ n1_; (try clear hb); (try clear hb2); (try clear hk); (try clear hi)))
    go_ret
    exact ⟨ew_, by repeat (first | (with_reducible first | exact HB.out | apply below_alloc | apply pw_below_drewN | apply below_drew1 | refine below_set ?_ GE379.out) | exact HB.out)⟩
  ·replace c7 := Bool.eq_false_iff.mpr c7
   subst c7
   have H1 : (some false) = some r := by rw [if_neg (show ¬ (false = true) by decide)] at H; exact H
   clear H
   have H := H1
   clear H1
   obtain rfl := Option.some.inj H
   go_enter Try.func20, Try.ntmps20
   go_wp2_with (first | ((with_reducible refine gate_dst (N := 3) rfl ?_); refine box_event ?hg (N := 3) ?hd (cs := #[.slice A0_0 l0_0.length c0_0, .slice A0_1 l0_1.length c0_1]) (t := 25) ?hr ?_; (case hd => rfl); (case hg => rfl); (case hr => first | (go_simp; done) | (go_simp; rfl)); intro gb379 hg w33 hbox hb; have n0_ := Aside0.mk (below_step (bb_ HB) hb); have n1_ := Aside0.mk (hbox); have n2_ := Aside0.mk ((by rw [hg]; exact (below_size (bb_ HB)) : w.heap.size ≤ gb379)); have n3_ := Aside0.mk ((by rw [hg]; exact (below_size (bb_ HB)) : w.heap.size ≤ gb379)); clear HB; have HB := n0_; have BK379 := n1_; have GW379 := n2_; have GE379 := n3_; clear n0_ n1_ n2_ n3_; clear hb hbox hg; have hcz34_0 : w33.cell? ⟨gb379, 0, none⟩ = some (.slice A0_0 l0_0.length c0_0) := (blk_cell BK379.out 0).trans rfl; have hcz34_1 : w33.cell? ⟨gb379, 1, none⟩ = some (.slice A0_1 l0_1.length c0_1) := (blk_cell BK379.out 1).trans rfl; have hfz34_0 := blk_frozen BK379.out 0; have hfz34_1 := blk_frozen BK379.out 1) | ((with_reducible refine gate_callee (f := 11) rfl ?_); refine gl_ (some 8) Try.func11 #[.agg #[.slice A0_0 l0_0.length c0_0, .slice A0_1 l0_1.length c0_1]] ?_; (with_reducible refine (cohousingref23_Few.calls k _ _ l0_0 _ _ l0_1 true _ ?side1 ?side2 ?side3 ?side4 A4.out).mono ?_); (case side1 => exact cc_ ((Kd.C_below HR0_0.out HB.out))); (case side2 => exact HC0_0.out); (case side3 => exact cc_ ((Kd.C_below HR0_1.out HB.out))); (case side4 => exact HC0_1.out); rintro e w35 ⟨rfl, hb⟩; refine ⟨_, rfl, ?_⟩; have n0_ := Aside0.mk (blk_below (g := gb379) (o := .cells #[.slice A0_0 l0_0.length c0_0, .slice A0_1 l0_1.length c0_1] 25 (0, 0)) (kk_ BK379) hb); have n1_ := Aside0.mk (below_step (bs_ HB GE379.out) hb); clear BK379; clear HB; have BK379 := n0_; have HB := n1_; clear n0_ n1_; (try clear hb); (try clear hb2); (try clear hk); (try clear hi)) | (go_at_call 12; (with_reducible refine (cohousingref26_Few.calls k _ _ l1 _ _ l2 false _ ?side1 ?side2 ?side3 ?side4 A6.out).mono ?_); (case side1 => exact cc_ ((Kd.C_below HR1.out HB.out))); (case side2 => exact HC1.out); (case side3 => exact cc_ ((Kd.C_below HR2.out HB.out))); (case side4 => exact HC2.out); rintro e w' ⟨rfl, ⟨nd, rfl⟩⟩))
   go_ret
   exact ⟨ew_, by repeat (first | (with_reducible first | exact HB.out | apply below_alloc | apply pw_below_drewN | apply below_drew1 | refine below_set ?_ GE379.out) | exact HB.out)⟩
 ·replace c5 := Bool.eq_false_iff.mpr c5
  subst c5
  have H1 : (some false) = some r := by rw [if_neg (show ¬ (false = true) by decide)] at H; exact H
  clear H
  have H := H1
  clear H1
  obtain rfl := Option.some.inj H
  go_enter Try.func20, Try.ntmps20
  go_wp2_with (first | ((with_reducible refine gate_dst (N := 3) rfl ?_); refine box_event ?hg (N := 3) ?hd (cs := #[.slice A0_0 l0_0.length c0_0, .slice A0_1 l0_1.length c0_1]) (t := 25) ?hr ?_; (case hd => rfl); (case hg => rfl); (case hr => first | (go_simp; done) | (go_simp; rfl)); intro gb379 hg w36 hbox hb; have n0_ := Aside0.mk (below_step (bb_ HB) hb); have n1_ := Aside0.mk (hbox); have n2_ := Aside0.mk ((by rw [hg]; exact (below_size (bb_ HB)) : w.heap.size ≤ gb379)); have n3_ := Aside0.mk ((by rw [hg]; exact (below_size (bb_ HB)) : w.heap.size ≤ gb379)); clear HB; have HB := n0_; have BK379 := n1_; have GW379 := n2_; have GE379 := n3_; clear n0_ n1_ n2_ n3_; clear hb hbox hg; have hcz37_0 : w36.cell? ⟨gb379, 0, none⟩ = some (.slice A0_0 l0_0.length c0_0) := (blk_cell BK379.out 0).trans rfl; have hcz37_1 : w36.cell? ⟨gb379, 1, none⟩ = some (.slice A0_1 l0_1.length c0_1) := (blk_cell BK379.out 1).trans rfl; have hfz37_0 := blk_frozen BK379.out 0; have hfz37_1 := blk_frozen BK379.out 1) | ((with_reducible refine gate_callee (f := 11) rfl ?_); refine gl_ (some 8) Try.func11 #[.agg #[.slice A0_0 l0_0.length c0_0, .slice A0_1 l0_1.length c0_1]] ?_; (with_reducible refine (cohousingref23_Few.calls k _ _ l0_0 _ _ l0_1 false _ ?side1 ?side2 ?side3 ?side4 A4.out).mono ?_); (case side1 => exact cc_ ((Kd.C_below HR0_0.out HB.out))); (case side2 => exact HC0_0.out); (case side3 => exact cc_ ((Kd.C_below HR0_1.out HB.out))); (case side4 => exact HC0_1.out); rintro e w38 ⟨rfl, hb⟩; refine ⟨_, rfl, ?_⟩; have n0_ := Aside0.mk (blk_below (g := gb379) (o := .cells #[.slice A0_0 l0_0.length c0_0, .slice A0_1 l0_1.length c0_1] 25 (0, 0)) (kk_ BK379) hb); have n1_ := Aside0.mk (below_step (bs_ HB GE379.out) hb); clear BK379; clear HB; have BK379 := n0_; have HB := n1_; clear n0_ n1_; (try clear hb); (try clear hb2); (try clear hk); (try clear hi)))
  go_ret
  exact ⟨ew_, by repeat (first | (with_reducible first | exact HB.out | apply below_alloc | apply pw_below_drewN | apply below_drew1 | refine below_set ?_ GE379.out) | exact HB.out)⟩
end
section
def cohousinglaw26_on.f (a0 : Int) : Option (Int) := some (Int.tmod (wrap64 (a0)) 36525)
theorem cohousinglaw26_on.calls (a0 : Int) (r : Int) (w : World) (h : cohousinglaw26_on.f a0 = some r) :
  Calls Try.prog 21 #[.int .u16 a0] w fun e w' => e = .returned (.int .i64 r) ∧ Drawn0 w w' := by
 have H : (some (Int.tmod (wrap64 (a0)) 36525)) = some r := h
 clear h
 obtain rfl := Option.some.inj H
 go_enter Try.func21, Try.ntmps21
 go_wp2
 go_ret
 exact ⟨by first | rfl | (simp; done) | (simp [*]; done), by repeat (first | exact Drawn0.refl _ | apply Drawn0.step)⟩
end
end Go.Proofs.Ytocbiggglnpeoaa.P
end
section
namespace Go.Proofs.Ytocbiggglnpeoaa.P
open Go.RowKit Go.Proofs.YtocbiggglnpeoaaW.PrintWords Go.Proofs.YtocbiggglnpeoaaW.PrintLast Go.Proofs.YtocbiggglnpeoaaW.PrintMore Go.Proofs.YtocbiggglnpeoaaH
open Classical
def Ev {α : Type} (f : Nat → Option α) (r : α) : Prop := ∃ k0, ∀ k, k0 ≤ k → f k = some r
theorem Ev.step {α : Type} {f : Nat → Option α} {r : α} (h : Ev (fun k => f (k + 1)) r) : Ev f r := by
 obtain ⟨k0, hk⟩ := h
 refine ⟨k0 + 1, fun k h1 => ?_⟩
 obtain ⟨m, rfl⟩ : ∃ m, k = m + 1 := ⟨k - 1, by omega⟩
 exact hk m (by omega)
theorem Ev.pure {α : Type} (r : α) : Ev (fun _ => some r) r := ⟨0, fun _ _ => rfl⟩
theorem Ev.bnd {α β : Type} {f : Nat → Option β} {g : β → Nat → Option α} {b : β} {r : α} (hf : Ev f b) (hg : Ev (g b) r) : Ev (fun k => (f k).bind fun t => g t k) r := by
 obtain ⟨k0, h0⟩ := hf
 obtain ⟨k1, h1⟩ := hg
 refine ⟨max k0 k1, fun k hk => ?_⟩
 show (f k).bind _ = _
 rw [h0 k (by omega)]
 exact h1 k (by omega)
theorem Ev.congr {α : Type} {f g : Nat → Option α} {r : α} (h : ∀ k, f k = g k) (hg : Ev g r) : Ev f r := by
 obtain ⟨k0, hk⟩ := hg
 exact ⟨k0, fun k h1 => by rw [h k]; exact hk k h1⟩
theorem Ev.of_mono {α : Type} {f : Nat → Option α} {r : α} (k0 : Nat) (h0 : f k0 = some r) (h : ∀ k, LeO (f k) (f (k + 1))) : Ev f r := by
 refine ⟨k0, fun k hk => ?_⟩
 obtain ⟨d, rfl⟩ : ∃ d, k = k0 + d := ⟨k - k0, by omega⟩
 induction d with
 | zero => exact h0
 | succ d ih => exact h _ _ (ih (by omega))
theorem wrap_nat {i : Nat} (h : i ≤ 140737488355328) : wrap64 ((i : Int) + 1) = ((i + 1 : Nat) : Int) := by unfold wrap64; omega
abbrev FT := S84
abbrev PT := S46
abbrev MT := S51
abbrev GT := S49
abbrev YT := S55
abbrev fid (l : List FT) (i : Nat) : Int := (rd_T84 l (i : Int)).f0
abbrev pid (l : List PT) (i : Nat) : Int := (rd_T46 l (i : Int)).f0
abbrev pfl (l : List PT) (i : Nat) : Int := (rd_T46 l (i : Int)).f1
abbrev pwt (l : List PT) (i : Nat) : List Int := (rd_T46 l (i : Int)).f2
abbrev mv (l : List MT) (i : Nat) : MT := rd_T51 l (i : Int)
abbrev rg (l : List GT) (i : Nat) : GT := rd_T49 l (i : Int)
abbrev ry (l : List YT) (i : Nat) : YT := rd_T55 l (i : Int)
theorem pa_get (l : List PT) (j : Nat) (h : j < l.length) : rd_T46 l (j : Int) = l[j] := by simp [rd_T46, List.getD_eq_getElem?_getD, h]
theorem mv_get (l : List MT) (j : Nat) (h : j < l.length) : mv l j = l[j] := by simp [mv, rd_T51, List.getD_eq_getElem?_getD, h]
theorem rg_get (l : List GT) (j : Nat) (h : j < l.length) : rg l j = l[j] := by simp [rg, rd_T49, List.getD_eq_getElem?_getD, h]
theorem ry_get (l : List YT) (j : Nat) (h : j < l.length) : ry l j = l[j] := by simp [ry, rd_T55, List.getD_eq_getElem?_getD, h]
theorem rd_get (l : List Int) (j : Nat) (h : j < l.length) : rd l (j : Int) = l[j] := by simp [rd, List.getD_eq_getElem?_getD, h]
theorem asc_adj (g : Nat → Int) (q : Int) (m : Nat) : (∀ n, n < m → (if n = 0 then q else g (n - 1)) < g n) ↔ (∀ n, n < m → q < g n) ∧ (∀ i j, i < j → j < m → g i < g j) := by
 constructor
 ·intro h
  have h2 : ∀ i d, i + d + 1 < m → g i < g (i + d + 1) := by
   intro i d
   induction d with
   | zero => intro hm; have := h (i + 1) hm; rwa [if_neg (by omega)] at this
   | succ d ih =>
    intro hm
    have h1 := ih (by omega)
    have h3 := h (i + (d + 1) + 1) hm
    rw [if_neg (by omega), show i + (d + 1) + 1 - 1 = i + d + 1 by omega] at h3
    omega
  have h1 : ∀ i j, i < j → j < m → g i < g j := fun i j hij hj => by
   have := h2 i (j - i - 1) (by omega)
   rwa [show i + (j - i - 1) + 1 = j by omega] at this
  refine ⟨fun n hn => ?_, h1⟩
  have h0 := h 0 (by omega)
  rw [if_pos rfl] at h0
  by_cases e : n = 0
  ·subst e; exact h0
  ·have := h1 0 n (by omega) hn; omega
 ·rintro ⟨h1, h2⟩ n hn
  by_cases e : n = 0
  ·rw [if_pos e]; exact h1 n hn
  ·rw [if_neg e]; exact h2 (n - 1) n (by omega) hn
theorem foldM_key {α : Type} (g : Int → α) (ks : Nat → Int) (k : Int) : ∀ n, foldM ks (fun j => g (ks j)) n k = if ∃ j, j < n ∧ ks j = k then some (g k) else none
 | 0 => by rw [if_neg (fun ⟨j, hj, _⟩ => absurd hj (Nat.not_lt_zero _))]; rfl
 | n + 1 => by
  rw [foldM_succ]
  unfold upd
  by_cases h : k = ks n
  ·rw [if_pos h, if_pos ⟨n, by omega, h.symm⟩, h]
  ·rw [if_neg h, foldM_key g ks k n]
   by_cases h2 : ∃ j, j < n ∧ ks j = k
   ·obtain ⟨j, hj, e⟩ := h2
    rw [if_pos ⟨j, hj, e⟩, if_pos ⟨j, by omega, e⟩]
   ·rw [if_neg h2, if_neg]
    rintro ⟨j, hj, e⟩
    rcases Nat.lt_succ_iff_lt_or_eq.1 hj with h' | h'
    ·exact h2 ⟨j, h', e⟩
    ·subst h'; exact h e.symm
theorem foldM_const {α : Type} (v : α) (ks : Nat → Int) (k : Int) (n : Nat) : foldM ks (fun _ => v) n k = if ∃ j, j < n ∧ ks j = k then some v else none := foldM_key (fun _ => v) ks k n
theorem foldM_inj {α : Type} (ks : Nat → Int) (vs : Nat → α) : ∀ n, (∀ i j, i < j → j < n → ks i ≠ ks j) → ∀ j, j < n → foldM ks vs n (ks j) = some (vs j)
 | 0 => fun _ j hj => absurd hj (Nat.not_lt_zero _)
 | n + 1 => fun h j hj => by
  rw [foldM_succ]
  unfold upd
  by_cases e : j = n
  ·subst e; rw [if_pos rfl]
  ·rw [if_neg (h j n (by omega) (by omega))]
   exact foldM_inj ks vs n (fun i j h1 h2 => h i j h1 (by omega)) j (by omega)
theorem foldM_has {α : Type} (ks : Nat → Int) (vs : Nat → α) (k : Int) (v : α) : ∀ n, foldM ks vs n k = some v → ∃ j, j < n ∧ ks j = k ∧ vs j = v
 | 0 => fun h => by cases h
 | n + 1 => fun h => by
  rw [foldM_succ] at h
  unfold upd at h
  by_cases e : k = ks n
  ·rw [if_pos e] at h
   exact ⟨n, by omega, e.symm, Option.some.inj h⟩
  ·rw [if_neg e] at h
   obtain ⟨j, hj, h1, h2⟩ := foldM_has ks vs k v n h
   exact ⟨j, by omega, h1, h2⟩
theorem foldM_no {α : Type} (ks : Nat → Int) (vs : Nat → α) (k : Int) (n : Nat) (h : foldM ks vs n k = none) : ∀ j, j < n → ks j ≠ k := fun j hj e => by
 have := (foldM_isSome ks vs k n).2 ⟨j, hj, e⟩
 rw [h] at this
 cases this
def HasF (fl : List FT) (x : Int) : Prop := ∃ j, j < fl.length ∧ fid fl j = x
structure FlatsV (fl : List FT) : Prop where
 asc : ∀ i j, i < j → j < fl.length → fid fl i < fid fl j
 rng : ∀ i, i < fl.length → 1 ≤ fid fl i ∧ fid fl i ≤ 64 ∧ 1 ≤ (rd_T84 fl (i : Int)).f1 ∧ (rd_T84 fl (i : Int)).f1 ≤ 10
theorem flatsOk_iff (fl : List FT) : flatsOk fl = true ↔ FlatsV fl := by
 have h := asc_adj (fid fl) 0 fl.length
 have e : ∀ n, (if n = 0 then (0 : Int) else fid fl (n - 1)) = lastF fl n := fun n => rfl
 simp only [e] at h
 unfold flatsOk flatAt
 simp only [List.all_eq_true, List.mem_range, decide_eq_true_iff]
 constructor
 ·intro hh
  obtain ⟨h1, h2⟩ := h.1 (fun n hn => (hh n hn).1)
  exact ⟨h2, fun i hi => ⟨by have := h1 i hi; omega, (hh i hi).2⟩⟩
 ·intro hv n hn
  exact ⟨h.2 ⟨fun n hn => by have := (hv.rng n hn).1; omega, hv.asc⟩ n hn, (hv.rng n hn).2⟩
theorem asc_count (g : Nat → Int) (m : Nat) (h1 : ∀ i, i < m → 1 ≤ g i) (h2 : ∀ i j, i < j → j < m → g i < g j) : ∀ i, i < m → (i : Int) + 1 ≤ g i := by
 intro i
 induction i with
 | zero => intro h; have := h1 0 h; omega
 | succ i ih => intro h; have := ih (by omega); have := h2 i (i + 1) (by omega) h; omega
theorem FlatsV.len {fl : List FT} (h : FlatsV fl) : fl.length ≤ 64 := by
 rcases Nat.eq_zero_or_pos fl.length with e | e
 ·omega
 ·have h1 := asc_count (fid fl) fl.length (fun i hi => (h.rng i hi).1) h.asc (fl.length - 1) (by omega)
  have h2 := (h.rng (fl.length - 1) (by omega)).2.1
  omega
structure Market (fl : List FT) (pa : List PT) : Prop where
 flv : FlatsV fl
 asc : ∀ i j, i < j → j < pa.length → pid pa i < pid pa j
 rng : ∀ i, i < pa.length → 1 ≤ pid pa i ∧ pid pa i ≤ 64
 own : ∀ i, i < pa.length → pfl pa i ≠ 0 → HasF fl (pfl pa i)
 dis : ∀ i j, i < j → j < pa.length → pfl pa j ≠ 0 → pfl pa i ≠ pfl pa j
 wnt : ∀ i, i < pa.length → ∀ k, k < (pwt pa i).length → HasF fl (rd (pwt pa i) (k : Int))
 wdis : ∀ i, i < pa.length → ∀ j k, j < k → k < (pwt pa i).length → rd (pwt pa i) (j : Int) ≠ rd (pwt pa i) (k : Int)
theorem rooms_iff {fl : List FT} (h : FlatsV fl) (x : Int) : (roomsM fl fl.length x).getD 0 ≠ 0 ↔ HasF fl x := by
 unfold roomsM
 constructor
 ·intro hh
  cases hx : foldM (fun j : Nat => (rd_T84 fl (j : Int)).f0) (fun j : Nat => (rd_T84 fl (j : Int)).f1) fl.length x with
  | none => rw [hx] at hh; exact absurd rfl hh
  | some v =>
   obtain ⟨j, hj, e, _⟩ := foldM_has _ _ _ _ _ hx
   exact ⟨j, hj, e⟩
 ·rintro ⟨j, hj, rfl⟩
  rw [foldM_inj (fun j : Nat => (rd_T84 fl (j : Int)).f0) _ fl.length (fun i j h1 h2 => Int.ne_of_lt (h.asc i j h1 h2)) j hj]
  have := (h.rng j hj).2.2.1
  show (rd_T84 fl (j : Int)).f1 ≠ 0
  omega
theorem getD_ite {c : Prop} [Decidable c] : ((if c then some true else none : Option Bool).getD false) = decide c := by
 by_cases h : c <;> simp [h]
theorem marketOk_iff (fl : List FT) (pa : List PT) : marketOk fl pa = true ↔ Market fl pa := by
 have ha := asc_adj (pid pa) 0 pa.length
 have e : ∀ n, (if n = 0 then (0 : Int) else pid pa (n - 1)) = lastP pa n := fun n => rfl
 simp only [e] at ha
 have hw : FlatsV fl → ∀ l : List Int, (wantsOk (roomsM fl fl.length) l = true ↔ (∀ k, k < l.length → HasF fl (rd l (k : Int))) ∧ (∀ j k, j < k → k < l.length → rd l (j : Int) ≠ rd l (k : Int))) := by
  intro hf l
  unfold wantsOk wantAt seenM
  simp only [List.all_eq_true, List.mem_range, Bool.and_eq_true, decide_eq_true_iff, Bool.not_eq_true', foldM_const, getD_ite, decide_eq_false_iff_not, rooms_iff hf]
  constructor
  ·intro hh
   exact ⟨fun k hk => (hh k hk).1, fun j k hj hk e => (hh k hk).2 ⟨j, hj, e⟩⟩
  ·rintro ⟨h1, h2⟩ k hk
   exact ⟨h1 k hk, fun ⟨j, hj, e⟩ => h2 j k hj hk e⟩
 have hp : FlatsV fl → ∀ n, (partyAt fl pa n = true ↔ (lastP pa n < pid pa n ∧ pid pa n ≤ 64) ∧ (pfl pa n = 0 ∨ HasF fl (pfl pa n) ∧ ∀ j, j < n → pfl pa j ≠ pfl pa n) ∧ (∀ k, k < (pwt pa n).length → HasF fl (rd (pwt pa n) (k : Int))) ∧ (∀ j k, j < k → k < (pwt pa n).length → rd (pwt pa n) (j : Int) ≠ rd (pwt pa n) (k : Int))) := by
  intro hf n
  unfold partyAt partyOk takenM
  simp only [Bool.and_eq_true, Bool.or_eq_true, decide_eq_true_iff, Bool.not_eq_true', foldM_const, getD_ite, decide_eq_false_iff_not, rooms_iff hf, hw hf, and_assoc]
  constructor
  ·rintro ⟨h1, h2, h3, h4, h5⟩
   refine ⟨h1, h2, ?_, h4, h5⟩
   rcases h3 with h3 | ⟨h3, h6⟩
   ·exact .inl h3
   ·exact .inr ⟨h3, fun j hj e => h6 ⟨j, hj, e⟩⟩
  ·rintro ⟨h1, h2, h3, h4, h5⟩
   refine ⟨h1, h2, ?_, h4, h5⟩
   rcases h3 with h3 | ⟨h3, h6⟩
   ·exact .inl h3
   ·exact .inr ⟨h3, fun ⟨j, hj, e⟩ => h6 j hj e⟩
 unfold marketOk
 rw [Bool.and_eq_true, flatsOk_iff, List.all_eq_true]
 simp only [List.mem_range]
 constructor
 ·rintro ⟨hf, hh⟩
  have hh' := fun n hn => (hp hf n).1 (hh n hn)
  obtain ⟨h1, h2⟩ := ha.1 (fun n hn => (hh' n hn).1.1)
  refine ⟨hf, h2, fun i hi => ⟨by have := h1 i hi; omega, (hh' i hi).1.2⟩, fun i hi h0 => ?_, fun i j hij hj h0 => ?_, fun i hi => (hh' i hi).2.2.1, fun i hi => (hh' i hi).2.2.2⟩
  ·rcases (hh' i hi).2.1 with h | h
   ·exact absurd h h0
   ·exact h.1
  ·rcases (hh' j hj).2.1 with h | h
   ·exact absurd h h0
   ·exact h.2 i hij
 ·intro hv
  refine ⟨hv.flv, fun n hn => (hp hv.flv n).2 ⟨⟨ha.2 ⟨fun n hn => by have := (hv.rng n hn).1; omega, hv.asc⟩ n hn, (hv.rng n hn).2⟩, ?_, hv.wnt n hn, hv.wdis n hn⟩⟩
  by_cases h0 : pfl pa n = 0
  ·exact .inl h0
  ·exact .inr ⟨hv.own n hn h0, fun j hj => hv.dis j n hj hn h0⟩
theorem Market.len {fl : List FT} {pa : List PT} (h : Market fl pa) : pa.length ≤ 64 := by
 rcases Nat.eq_zero_or_pos pa.length with e | e
 ·omega
 ·have h1 := asc_count (pid pa) pa.length (fun i hi => (h.rng i hi).1) h.asc (pa.length - 1) (by omega)
  have h2 := (h.rng (pa.length - 1) (by omega)).2
  omega
theorem Market.inj {fl : List FT} {pa : List PT} (h : Market fl pa) {i j : Nat} (hi : i < pa.length) (hj : j < pa.length) (e : pid pa i = pid pa j) : i = j := by
 rcases Nat.lt_trichotomy i j with h1 | h1 | h1
 ·have := h.asc i j h1 hj; omega
 ·exact h1
 ·have := h.asc j i h1 hi; omega
theorem Market.flat_inj {fl : List FT} {pa : List PT} (h : Market fl pa) {i j : Nat} (hi : i < pa.length) (hj : j < pa.length) (h0 : pfl pa i ≠ 0) (e : pfl pa i = pfl pa j) : i = j := by
 rcases Nat.lt_trichotomy i j with h1 | h1 | h1
 ·exact absurd e (h.dis i j h1 hj (by rw [← e]; exact h0))
 ·exact h1
 ·exact absurd e.symm (h.dis j i h1 hi h0)
def Fits (fl : List FT) (pa : List PT) (x : MT) : Prop := ∃ i, i < pa.length ∧ pid pa i = x.f0 ∧ pfl pa i = x.f1 ∧ HasF fl x.f2
def Free (pa : List PT) (x : Int) : Prop := ∀ i, i < pa.length → pfl pa i ≠ x
theorem known_eq (fl : List FT) (x : Int) : (knownM fl fl.length x).getD false = decide (HasF fl x) := by
 unfold knownM
 rw [foldM_const, getD_ite]
 exact decide_eq_decide.2 Iff.rfl
theorem occ_eq (pa : List PT) (x : Int) (hx : x ≠ 0) : (occM pa pa.length x).getD false = !decide (Free pa x) := by
 unfold occM
 rw [foldM_key (fun k => k != 0)]
 by_cases h : ∃ j, j < pa.length ∧ (rd_T46 pa (j : Int)).f1 = x
 ·rw [if_pos h, decide_eq_false (show ¬ Free pa x from fun hf => by obtain ⟨j, hj, e⟩ := h; exact hf j hj e)]
  simpa using hx
 ·rw [if_neg h, decide_eq_true (show Free pa x from fun j hj e => h ⟨j, hj, e⟩)]
  rfl
section
variable {fl : List FT} {pa : List PT} (hM : Market fl pa)
include hM
theorem homes_at {i : Nat} (hi : i < pa.length) : homesM pa pa.length (pid pa i) = some (pfl pa i) :=
 foldM_inj (fun j : Nat => (rd_T46 pa (j : Int)).f0) (fun j : Nat => (rd_T46 pa (j : Int)).f1) pa.length (fun i j h1 h2 => Int.ne_of_lt (hM.asc i j h1 h2)) i hi
theorem fits_iff (x : MT) : fitsB (homesM pa pa.length) (knownM fl fl.length) x = true ↔ Fits fl pa x := by
 unfold fitsB
 rw [Bool.and_eq_true, Bool.and_eq_true, known_eq, decide_eq_true_iff]
 constructor
 ·rintro ⟨⟨h1, h2⟩, h3⟩
  cases hx : homesM pa pa.length x.f0 with
  | none => rw [hx] at h1; cases h1
  | some v =>
   obtain ⟨j, hj, e1, e2⟩ := foldM_has _ _ _ _ _ hx
   rw [hx] at h2
   exact ⟨j, hj, e1, by rw [show pfl pa j = v from e2]; exact eq_of_beq h2, h3⟩
 ·rintro ⟨i, hi, e1, e2, h3⟩
  have := homes_at hM hi
  rw [e1, e2] at this
  rw [this]
  exact ⟨⟨rfl, beq_self_eq_true _⟩, h3⟩
end
theorem HasF.pos {fl : List FT} (h : FlatsV fl) {x : Int} (hx : HasF fl x) : 1 ≤ x := by
 obtain ⟨j, hj, rfl⟩ := hx
 exact (h.rng j hj).1
end Go.Proofs.Ytocbiggglnpeoaa.P
end
section
namespace Go.Proofs.Ytocbiggglnpeoaa.P
open Go.RowKit Go.Proofs.YtocbiggglnpeoaaW.PrintWords Go.Proofs.YtocbiggglnpeoaaW.PrintLast Go.Proofs.YtocbiggglnpeoaaW.PrintMore
attribute [local go_sem] max2_int min2_int max_two min_two max_three min_three max_four min_four
set_option linter.unusedVariables false
set_option linter.unusedSimpArgs false
set_option maxHeartbeats 8000000
set_option maxRecDepth 100000
section
theorem eqA84 (d : Nat) (w : World) (x0 y0 : Int) (x1 y1 : Int) :
  (Op.equalIn (d + 2) 84 (.agg #[.int .i64 x0, .int .i64 x1]) (.agg #[.int .i64 y0, .int .i64 y1])).run Try.prog w = .ok (x0 == y0 && (x1 == y1)) w := by
 refine eqA_of Try.underlying84 (by kernel_rfl) ?_
 refine eqf_cons (by rfl) (by go_simp; rfl) (by go_simp; rfl) (by go_simp) ?_
 exact eqf_last (by rfl) (by go_simp; rfl) (by go_simp; rfl) (by go_simp)
end
end Go.Proofs.Ytocbiggglnpeoaa.P
end
