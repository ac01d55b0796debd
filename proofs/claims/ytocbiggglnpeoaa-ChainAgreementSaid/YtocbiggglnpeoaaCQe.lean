/- Part 5 of the base that the seat's proofs share: words, walks and plain laws. -/
import Derived.ArgAppend
import Derived.Below
import Derived.BigQuiet
import Derived.ChangeOld
import Derived.ChangeSlices
import Derived.Deep.AppendLies
import Derived.Deep.CutBlock
import Derived.Deep.DeepCutAuto
import Derived.Deep.Draws
import Derived.Deep.LoopGhost
import Derived.Deep.OwnRows
import Derived.Deep.QuietTactic
import Derived.Deep.RegionHeld3
import Derived.Deep.Slices
import Derived.KernelRfl
import Derived.Laws.BitsLemmas
import Derived.Laws.BytesArg
import Derived.Laws.IdiomCopy
import Derived.Laws.MakeOwn
import Derived.Laws.OwnMore
import Derived.Laws.Rows
import Derived.Laws.Slices
import Derived.Laws.StructEq
import Derived.Lib.AppendStr
import Derived.Lib.BufferOwn
import Derived.Lib.ConvBytes
import Derived.Lib.SliceRun
import Derived.LoopIn
import Derived.LoopNIn
import Derived.Maps.AppendAt
import Derived.Maps.Own
import Derived.OpenShut
import Derived.OrdersHeld
import Derived.OwnWalk
import Derived.OwnWalkIn
import Derived.ProofKit
import Derived.RangeFuncBound
import Derived.RangeFuncCalls
import Derived.RangeFuncLeaves
import Derived.RangeFuncNested
import Derived.RowKit
import Derived.RowKit3
import Derived.ShutString
import Derived.SizedLaws
import Derived.Tactics
import Derived.TacticsInMore
import Derived.Test.YtocbiggglnpeoaaProg
import Derived.WalkKit
import Derived.WideLaws
import Derived.Test.YtocbiggglnpeoaaCQd
set_option linter.unusedVariables false
set_option linter.unusedSimpArgs false
section
namespace Go.Proofs.Ytocbiggglnpeoaa.P
open Go.RowKit Go.Proofs.YtocbiggglnpeoaaW.PrintWords Go.Proofs.YtocbiggglnpeoaaW.PrintLast Go.Proofs.YtocbiggglnpeoaaW.PrintMore
attribute [local go_sem] max2_int min2_int max_two min_two max_three min_three max_four min_four
set_option linter.unusedVariables false
set_option linter.unusedSimpArgs false
set_option maxHeartbeats 8000000
set_option maxRecDepth 100000
section
mutual
def cohousingref26_Rings.l0 : Nat → List (S49) → List Int → List Int → Int → List (S84) → List (S46) → Option (Bool)
 | 0, _, _, _, _, _, _ => none
 | k + 1, x1, x5, x6, x7, x243000, x243001 => if x7 < (x1.length : Int) then (cohousingref26_Rings.l1 k x1 x5 x6 x7 0 x243000 x243001) else (some true)
def cohousingref26_Rings.l1 : Nat → List (S49) → List Int → List Int → Int → Int → List (S84) → List (S46) → Option (Bool)
 | 0, _, _, _, _, _, _, _ => none
 | k + 1, x1, x5, x6, x7, x8, x243000, x243001 => if 0 ≤ x7 then (if x7 < (x1.length : Int) then (if x8 < (((rd_T49 x1 x7).f1).length : Int) then (if 0 ≤ x8 then ((cohousingref26_move.f k x243000 x243001 ((rd_T51 ((rd_T49 x1 x7).f1) x8).f0) ((rd_T51 ((rd_T49 x1 x7).f1) x8).f1) ((rd_T51 ((rd_T49 x1 x7).f1) x8).f2)).bind fun t249 => (if t249 = true then ((cohousingref23_In.f k x5 ((rd_T51 ((rd_T49 x1 x7).f1) x8).f0)).bind fun t250 => (if t250 ≥ 0 then (some false) else ((cohousingref23_In.f k x6 ((rd_T51 ((rd_T49 x1 x7).f1) x8).f2)).bind fun t251 => (if t251 ≥ 0 then (some false) else (if x5.length < 17592186044416 then (if x6.length < 17592186044416 then (cohousingref26_Rings.l1 k x1 (x5 ++ [(rd_T51 ((rd_T49 x1 x7).f1) x8).f0]) (x6 ++ [(rd_T51 ((rd_T49 x1 x7).f1) x8).f2]) x7 (wrap64 (x8 + 1)) x243000 x243001) else (none)) else (none)))))) else (some false))) else (none)) else ((cohousingref26_shape.f k x243000 x243001 ((rd_T49 x1 x7).f0) ((rd_T49 x1 x7).f1)).bind fun t245 => (if t245 = true then (cohousingref26_Rings.l0 k x1 x5 x6 (wrap64 (x7 + 1)) x243000 x243001) else (some false)))) else (none)) else (none)
end
def cohousingref26_Rings.f (k : Nat) (l0_0 : List (S84)) (l0_1 : List (S46)) (l1 : List (S49)) : Option (Bool) := if (l1.length : Int) > 64 then (some false) else (cohousingref26_Rings.l0 k l1 ([] : List Int) ([] : List Int) 0 l0_0 l0_1)
theorem cohousingref26_Rings.calls (k : Nat) (A0_0 : Option Addr) (c0_0 : Nat) (l0_0 : List (S84)) (A0_1 : Option Addr) (c0_1 : Nat) (l0_1 : List (S46)) (A1 : Option Addr) (c1 : Nat) (l1 : List (S49)) (r : Bool) (w : World) (hr0_0 : Kd.C k84 w A0_0 l0_0.length l0_0) (hc0_0 : l0_0.length ≤ c0_0) (hr0_1 : Kd.C k46 w A0_1 l0_1.length l0_1) (hc0_1 : l0_1.length ≤ c0_1) (hr1 : Kd.C k49 w A1 l1.length l1) (hc1 : l1.length ≤ c1) (h : cohousingref26_Rings.f k l0_0 l0_1 l1 = some r) :
  Calls Try.prog 35 #[.agg #[.slice A0_0 l0_0.length c0_0, .slice A0_1 l0_1.length c0_1], .slice A1 l1.length c1] w fun e w' => e = .returned (.bool r) ∧ Below w.heap.size w w' := by
 have hu25 := Try.underlying25
 have hu51 := Try.underlying51
 have hu49 := Try.underlying49
 have HR0_0 := Aside0.mk hr0_0
 have HC0_0 := Aside0.mk hc0_0
 clear hr0_0 hc0_0
 have HR0_1 := Aside0.mk hr0_1
 have HC0_1 := Aside0.mk hc0_1
 clear hr0_1 hc0_1
 have HR1 := Aside0.mk hr1
 have HC1 := Aside0.mk hc1
 clear hr1 hc1
 have HB := Aside0.mk (Below.refl w.heap.size w)
 have H : (if (l1.length : Int) > 64 then (some false) else (cohousingref26_Rings.l0 k l1 ([] : List Int) ([] : List Int) 0 l0_0 l0_1)) = some r := h
 clear h
 by_cases c3 : (l1.length : Int) > 64
 ·rw [if_pos c3] at H
  have c3b0 : decide (64 < (l1.length : Int)) = true := decide_eq_true c3
  have c3b1 : decide (64 < l1.length) = true := decide_eq_true (by omega)
  clear c3
  obtain rfl := Option.some.inj H
  go_enter Try.func35, Try.ntmps35
  go_wp2_with (first | ((with_reducible refine gate_dst (N := 2) rfl ?_); refine box_event ?hg (N := 2) ?hd (cs := #[.slice A0_0 l0_0.length c0_0, .slice A0_1 l0_1.length c0_1]) (t := 25) ?hr ?_; (case hd => rfl); (case hg => rfl); (case hr => first | (go_simp; done) | (go_simp; rfl)); intro gb242 hg w4 hbox hb; have n0_ := Aside0.mk (below_step (bb_ HB) hb); have n1_ := Aside0.mk (hbox); have n2_ := Aside0.mk ((by rw [hg]; exact (below_size (bb_ HB)) : w.heap.size ≤ gb242)); have n3_ := Aside0.mk ((by rw [hg]; exact (below_size (bb_ HB)) : w.heap.size ≤ gb242)); clear HB; have HB := n0_; have BK242 := n1_; have GW242 := n2_; have GE242 := n3_; clear n0_ n1_ n2_ n3_; clear hb hbox hg))
  go_ret
  exact ⟨ew_, by repeat (first | (with_reducible first | exact HB.out | apply below_alloc | apply pw_below_drewN | apply below_drew1 | refine below_set ?_ GE242.out) | exact HB.out)⟩
 ·rw [if_neg c3] at H
  have c3b0 : decide (64 < (l1.length : Int)) = false := decide_eq_false c3
  have c3b1 : decide (64 < l1.length) = false := decide_eq_false (by omega)
  clear c3
  have H' := Aside0.mk H
  clear H
  go_enter Try.func35, Try.ntmps35
  go_wp2_with (first | ((with_reducible refine gate_dst (N := 2) rfl ?_); refine box_event ?hg (N := 2) ?hd (cs := #[.slice A0_0 l0_0.length c0_0, .slice A0_1 l0_1.length c0_1]) (t := 25) ?hr ?_; (case hd => rfl); (case hg => rfl); (case hr => first | (go_simp; done) | (go_simp; rfl)); intro gb242 hg w5 hbox hb; have n0_ := Aside0.mk (below_step (bb_ HB) hb); have n1_ := Aside0.mk (hbox); have n2_ := Aside0.mk ((by rw [hg]; exact (below_size (bb_ HB)) : w.heap.size ≤ gb242)); have n3_ := Aside0.mk ((by rw [hg]; exact (below_size (bb_ HB)) : w.heap.size ≤ gb242)); clear HB; have HB := n0_; have BK242 := n1_; have GW242 := n2_; have GE242 := n3_; clear n0_ n1_ n2_ n3_; clear hb hbox hg))
  go_loopg [5, 6, 7] k (fun kq v5 v6 v7 w' => ∃ (x5_1 : List Int) (x6_1 : List Int) (x7_1 : Int), v7 = .int .i64 x7_1 ∧ Aside0 (cohousingref26_Rings.l0 kq l1 x5_1 x6_1 x7_1 l0_0 l0_1 = some r) ∧ Aside0 (kq ≤ k) ∧ Aside0 (Kd.R (Kd.int .i64) 3 w' w.heap.size (fun k_ => some k_ ≠ (v6 : Value).ownBlock) v5 x5_1) ∧ Aside0 (Kd.R (Kd.int .i64) 3 w' w.heap.size (fun k_ => some k_ ≠ (v5 : Value).ownBlock) v6 x6_1) ∧ Aside0 (w'.heap[gb242]? = some (.cells #[(.slice A0_0 l0_0.length c0_0), (.slice A0_1 l0_1.length c0_1)] 25 (0, 0))) ∧ Aside0 (Below w.heap.size w w'))
  case atStart => exact ⟨(([] : List Int)), (([] : List Int)), (0), sd_, H', ⟨Nat.le_refl _⟩, ⟨by first | exact Kd.R_nil _ _ _ _ _ | exact Kd.N_nil _ _ _ _ _ | exact Kd.V_nil _ _ _ _ _ | exact Kd.Q_nil _ _ _ _ _ | exact Kd.S_nil _ _ _ _ _⟩, ⟨by first | exact Kd.R_nil _ _ _ _ _ | exact Kd.N_nil _ _ _ _ _ | exact Kd.V_nil _ _ _ _ _ | exact Kd.Q_nil _ _ _ _ _ | exact Kd.S_nil _ _ _ _ _⟩, ⟨by (with_reducible repeat (first | refine blk_drewN ?_ _ | refine blk_drew ?_ | refine blk_alloc ?_ _)); exact BK242.out⟩, ⟨by repeat (first | (with_reducible first | exact HB.out | apply below_alloc | apply pw_below_drewN | apply below_drew1 | refine below_set ?_ GE242.out) | exact HB.out)⟩⟩
  case round =>
   clear H'
   try clear c1
   try clear p2
   try clear c3
   try clear c3b0
   try clear c3b1
   obtain ⟨x5_1, x6_1, x7_1, rfl, HA, HK1, HO_5, HO_6, BK242, HB⟩ := hrel
   cases gk with
   | zero => exact absurd HA.out (by simp [cohousingref26_Rings.l0])
   | succ k1 =>
    have H := HA.out
    clear HA
    simp only [cohousingref26_Rings.l0] at H
    by_cases c6 : x7_1 < (l1.length : Int)
    ·rw [if_pos c6] at H
     have c6b0 : decide (x7_1 < (l1.length : Int)) = true := decide_eq_true c6
     clear c6
     have H' := Aside0.mk H
     clear H
     go_wp2
     go_loopg [5, 6, 8] k1 (fun kq v5 v6 v8 w' => ∃ (x5_2 : List Int) (x6_2 : List Int) (x8_2 : Int), v8 = .int .i64 x8_2 ∧ Aside0 (cohousingref26_Rings.l1 kq l1 x5_2 x6_2 x7_1 x8_2 l0_0 l0_1 = some r) ∧ Aside0 (kq ≤ k1) ∧ Aside0 (Kd.R (Kd.int .i64) 3 w' w.heap.size (fun k_ => some k_ ≠ (v6 : Value).ownBlock) v5 x5_2) ∧ Aside0 (Kd.R (Kd.int .i64) 3 w' w.heap.size (fun k_ => some k_ ≠ (v5 : Value).ownBlock) v6 x6_2) ∧ Aside0 (w'.heap[gb242]? = some (.cells #[(.slice A0_0 l0_0.length c0_0), (.slice A0_1 l0_1.length c0_1)] 25 (0, 0))) ∧ Aside0 (Below w.heap.size w w'))
     case atStart => exact ⟨(x5_1), (x6_1), (0), sd_, H', ⟨Nat.le_refl _⟩, ⟨by (with_reducible repeat (first | apply Kd.R_alloc | apply Kd.R_drewN | apply Kd.R_drew)); exact HO_5.out⟩, ⟨by (with_reducible repeat (first | apply Kd.R_alloc | apply Kd.R_drewN | apply Kd.R_drew)); exact HO_6.out⟩, ⟨by (with_reducible repeat (first | refine blk_drewN ?_ _ | refine blk_drew ?_ | refine blk_alloc ?_ _)); exact BK242.out⟩, ⟨by repeat (first | (with_reducible first | exact HB.out | apply below_alloc | apply pw_below_drewN | apply below_drew1 | refine below_set ?_ GE242.out) | exact HB.out)⟩⟩
     case round =>
      clear H'
      try clear c1
      try clear p2
      try clear c3
      try clear c3b0
      try clear c3b1
      try clear c6
      try clear c6b0
      try clear p2
      obtain ⟨x5_2, x6_2, x8_2, rfl, HA, HK2, HO_5, HO_6, BK242, HB⟩ := hrel
      cases gk with
      | zero => exact absurd HA.out (by simp [cohousingref26_Rings.l1])
      | succ k2 =>
       have H := HA.out
       clear HA
       simp only [cohousingref26_Rings.l1] at H
       by_cases c7 : 0 ≤ x7_1
       ·rw [if_pos c7] at H
        have c7b0 : decide (0 ≤ x7_1) = true := decide_eq_true c7
        clear c7
        by_cases c8 : x7_1 < (l1.length : Int)
        ·rw [if_pos c8] at H
         have c8b0 : decide (x7_1 < (l1.length : Int)) = true := decide_eq_true c8
         clear c8
         by_cases c9 : x8_2 < (((rd_T49 l1 x7_1).f1).length : Int)
         ·rw [if_pos c9] at H
          have c9b0 : decide (x8_2 < (((rd_T49 l1 x7_1).f1).length : Int)) = true := decide_eq_true c9
          clear c9
          by_cases c10 : 0 ≤ x8_2
          ·rw [if_pos c10] at H
           have c10b0 : decide (0 ≤ x8_2) = true := decide_eq_true c10
           clear c10
           replace H := Option.bind_eq_some_iff.mp H
           obtain ⟨t249, A110, H⟩ := H
           replace H : (if t249 = true then ((cohousingref23_In.f k2 x5_2 ((rd_T51 ((rd_T49 l1 x7_1).f1) x8_2).f0)).bind fun t250 => (if t250 ≥ 0 then (some false) else ((cohousingref23_In.f k2 x6_2 ((rd_T51 ((rd_T49 l1 x7_1).f1) x8_2).f2)).bind fun t251 => (if t251 ≥ 0 then (some false) else (if x5_2.length < 17592186044416 then (if x6_2.length < 17592186044416 then (cohousingref26_Rings.l1 k2 l1 (x5_2 ++ [(rd_T51 ((rd_T49 l1 x7_1).f1) x8_2).f0]) (x6_2 ++ [(rd_T51 ((rd_T49 l1 x7_1).f1) x8_2).f2]) x7_1 (wrap64 (x8_2 + 1)) l0_0 l0_1) else (none)) else (none)))))) else (some false)) = some r := H
           have A11 := Aside0.mk A110
           clear A110
           by_cases c12 : t249 = true
           ·subst c12
            have H1 : ((cohousingref23_In.f k2 x5_2 ((rd_T51 ((rd_T49 l1 x7_1).f1) x8_2).f0)).bind fun t250 => (if t250 ≥ 0 then (some false) else ((cohousingref23_In.f k2 x6_2 ((rd_T51 ((rd_T49 l1 x7_1).f1) x8_2).f2)).bind fun t251 => (if t251 ≥ 0 then (some false) else (if x5_2.length < 17592186044416 then (if x6_2.length < 17592186044416 then (cohousingref26_Rings.l1 k2 l1 (x5_2 ++ [(rd_T51 ((rd_T49 l1 x7_1).f1) x8_2).f0]) (x6_2 ++ [(rd_T51 ((rd_T49 l1 x7_1).f1) x8_2).f2]) x7_1 (wrap64 (x8_2 + 1)) l0_0 l0_1) else (none)) else (none)))))) = some r := by rw [if_pos rfl] at H; exact H
            clear H
            have H := H1
            clear H1
            replace H := Option.bind_eq_some_iff.mp H
            obtain ⟨t250, A130, H⟩ := H
            replace H : (if t250 ≥ 0 then (some false) else ((cohousingref23_In.f k2 x6_2 ((rd_T51 ((rd_T49 l1 x7_1).f1) x8_2).f2)).bind fun t251 => (if t251 ≥ 0 then (some false) else (if x5_2.length < 17592186044416 then (if x6_2.length < 17592186044416 then (cohousingref26_Rings.l1 k2 l1 (x5_2 ++ [(rd_T51 ((rd_T49 l1 x7_1).f1) x8_2).f0]) (x6_2 ++ [(rd_T51 ((rd_T49 l1 x7_1).f1) x8_2).f2]) x7_1 (wrap64 (x8_2 + 1)) l0_0 l0_1) else (none)) else (none))))) = some r := H
            have A13 := Aside0.mk A130
            clear A130
            by_cases c14 : t250 ≥ 0
            ·rw [if_pos c14] at H
             have c14b0 : decide (0 ≤ t250) = true := decide_eq_true c14
             clear c14
             obtain rfl := Option.some.inj H
             have p243 : 0 ≤ (x7_1 : Int) := od_
             have q243 : x7_1 < (l1.length : Int) := od_
             obtain ⟨ad243, A243_1, c243_1, e243, hx243_0, hx243_1, hl243_1, hi243_1⟩ := at_T49 HR1.out x7_1 p243 q243
             cases e243
             replace hx243_0 := (HB.out.cell (World.block_lt_of_cell? w _ hx243_0)).trans hx243_0
             replace hx243_1 := (HB.out.cell (World.block_lt_of_cell? w _ hx243_1)).trans hx243_1
             have HR243_1 := Aside0.mk hi243_1
             have HC243_1 := Aside0.mk hl243_1
             clear hi243_1 hl243_1
             replace p243 := eq_true p243
             replace q243 := eq_true q243
             have p246 : 0 ≤ (x7_1 : Int) := od_
             have q246 : x7_1 < (l1.length : Int) := od_
             obtain ⟨ad246, A246_1, c246_1, e246, hx246_0, hx246_1, hl246_1, hi246_1⟩ := at_T49 HR1.out x7_1 p246 q246
             obtain rfl : ad243 = ad246 := (by injection e246)
             replace hx246_0 := (HB.out.cell (World.block_lt_of_cell? w _ hx246_0)).trans hx246_0
             replace hx246_1 := (HB.out.cell (World.block_lt_of_cell? w _ hx246_1)).trans hx246_1
             have HR246_1 := Aside0.mk hi246_1
             have HC246_1 := Aside0.mk hl246_1
             clear hi246_1 hl246_1
             replace p246 := eq_true p246
             replace q246 := eq_true q246
             have ea_ := Option.some.inj (hx243_1.symm.trans hx246_1)
             injection ea_ with ea_ en_ ec_
             subst ea_
             subst ec_
             clear en_
             have p247 : 0 ≤ (x8_2 : Int) := od_
             have q247 : x8_2 < (((rd_T49 l1 x7_1).f1).length : Int) := od_
             obtain ⟨ad247, e247, hx247_0, hx247_1, hx247_2⟩ := at_T51 HR246_1.out x8_2 p247 q247
             cases e247
             replace hx247_0 := (HB.out.cell (World.block_lt_of_cell? w _ hx247_0)).trans hx247_0
             replace hx247_1 := (HB.out.cell (World.block_lt_of_cell? w _ hx247_1)).trans hx247_1
             replace hx247_2 := (HB.out.cell (World.block_lt_of_cell? w _ hx247_2)).trans hx247_2
             replace p247 := eq_true p247
             replace q247 := eq_true q247
             go_wp2_with (first | ((with_reducible refine gate_dst (N := 9) rfl ?_); refine box_event ?hg (N := 9) ?hd (cs := #[.int .i64 0, .int .i64 0, .int .i64 0]) (t := 51) ?hr ?_; (case hd => rfl); (case hg => rfl); (case hr => first | (go_simp; done) | (go_simp; rfl)); intro gb248 hg w15 hbox hb; have n0_ := Aside0.mk (Kd.R_below (rr_ HO_5) hb); have n1_ := Aside0.mk (Kd.R_below (rr_ HO_6) hb); have n2_ := Aside0.mk (blk_below (g := gb242) (o := .cells #[.slice A0_0 l0_0.length c0_0, .slice A0_1 l0_1.length c0_1] 25 (0, 0)) (kk_ BK242) hb); have n3_ := Aside0.mk (below_step (bs_ HB GE242.out) hb); have n4_ := Aside0.mk (hbox); have n5_ := Aside0.mk ((by rw [hg]; exact (below_size (bs_ HB GE242.out)) : w.heap.size ≤ gb248)); have n6_ := Aside0.mk ((by rw [hg]; exact (below_size (bs_ HB GE242.out)) : w.heap.size ≤ gb248)); have n7_ := Aside0.mk ((by rw [hg]; exact Nat.ne_of_lt (blk_lt (g := gb242) (o := .cells #[.slice A0_0 l0_0.length c0_0, .slice A0_1 l0_1.length c0_1] 25 (0, 0)) (kk_ BK242)) : gb242 ≠ gb248)); have n8_ := Aside0.mk ((by rw [hg]; exact Nat.ne_of_gt (blk_lt (g := gb242) (o := .cells #[.slice A0_0 l0_0.length c0_0, .slice A0_1 l0_1.length c0_1] 25 (0, 0)) (kk_ BK242)) : gb248 ≠ gb242)); clear HO_5; clear HO_6; clear BK242; clear HB; have HO_5 := n0_; have HO_6 := n1_; have BK242 := n2_; have HB := n3_; have BK248 := n4_; have GW248 := n5_; have GE248 := n6_; have NB242_248 := n7_; have NB248_242 := n8_; clear n0_ n1_ n2_ n3_ n4_ n5_ n6_ n7_ n8_; clear hb hbox hg; have hnb16 := NB248_242.out; have hnc16 := NB242_248.out; have hcz17_0 : w15.cell? ⟨gb248, 0, none⟩ = some (.int .i64 0) := (blk_cell BK248.out 0).trans rfl; have hcz17_1 : w15.cell? ⟨gb248, 1, none⟩ = some (.int .i64 0) := (blk_cell BK248.out 1).trans rfl; have hcz17_2 : w15.cell? ⟨gb248, 2, none⟩ = some (.int .i64 0) := (blk_cell BK248.out 2).trans rfl; have hfz17_0 := blk_frozen BK248.out 0; have hfz17_1 := blk_frozen BK248.out 1; have hfz17_2 := blk_frozen BK248.out 2; have hcz18_0 : w15.cell? ⟨gb242, 0, none⟩ = some (.slice A0_0 l0_0.length c0_0) := (blk_cell BK242.out 0).trans rfl; have hcz18_1 : w15.cell? ⟨gb242, 1, none⟩ = some (.slice A0_1 l0_1.length c0_1) := (blk_cell BK242.out 1).trans rfl; have hfz18_0 := blk_frozen BK242.out 0; have hfz18_1 := blk_frozen BK242.out 1) | ((with_reducible refine gate_callee (f := 41) rfl ?_); refine gl_ (some 41) Try.func41 #[.agg #[.slice A0_0 l0_0.length c0_0, .slice A0_1 l0_1.length c0_1], .agg #[.int .i64 ((rd_T51 ((rd_T49 l1 x7_1).f1) x8_2).f0), .int .i64 ((rd_T51 ((rd_T49 l1 x7_1).f1) x8_2).f1), .int .i64 ((rd_T51 ((rd_T49 l1 x7_1).f1) x8_2).f2)]] ?_; (with_reducible refine (cohousingref26_move.calls k2 _ _ l0_0 _ _ l0_1 ((rd_T51 ((rd_T49 l1 x7_1).f1) x8_2).f0) ((rd_T51 ((rd_T49 l1 x7_1).f1) x8_2).f1) ((rd_T51 ((rd_T49 l1 x7_1).f1) x8_2).f2) true _ ?side1 ?side2 ?side3 ?side4 A11.out).mono ?_); (case side1 => exact Kd.C_below HR0_0.out (by repeat (first | (with_reducible first | exact HB.out | apply below_alloc | apply pw_below_drewN | apply below_drew1 | refine below_set ?_ GE242.out | refine below_set ?_ GE248.out) | exact HB.out))); (case side2 => exact HC0_0.out); (case side3 => exact Kd.C_below HR0_1.out (by repeat (first | (with_reducible first | exact HB.out | apply below_alloc | apply pw_below_drewN | apply below_drew1 | refine below_set ?_ GE242.out | refine below_set ?_ GE248.out) | exact HB.out))); (case side4 => exact HC0_1.out); rintro e w19 ⟨rfl, hb⟩; refine ⟨_, rfl, ?_⟩; have n0_ := Aside0.mk (Kd.R_below (by (with_reducible repeat (first | apply Kd.R_alloc | apply Kd.R_drewN | apply Kd.R_drew)); exact (Kd.R_mono (Kd.R_far (p := ⟨gb248, 2, none⟩) (Kd.R_far (p := ⟨gb248, 1, none⟩) (Kd.R_far (p := ⟨gb248, 0, none⟩) (Kd.R_types HO_5.out BK248.out (by decide)) (fun _ hk => hk.2) (.int .i64 ((rd_T51 ((rd_T49 l1 x7_1).f1) x8_2).f0))) (fun _ hk => hk.2) (.int .i64 ((rd_T51 ((rd_T49 l1 x7_1).f1) x8_2).f1))) (fun _ hk => hk.2) (.int .i64 ((rd_T51 ((rd_T49 l1 x7_1).f1) x8_2).f2))) (fun _ h_ => h_.1))) hb); have n1_ := Aside0.mk (Kd.R_below (by (with_reducible repeat (first | apply Kd.R_alloc | apply Kd.R_drewN | apply Kd.R_drew)); exact (Kd.R_mono (Kd.R_far (p := ⟨gb248, 2, none⟩) (Kd.R_far (p := ⟨gb248, 1, none⟩) (Kd.R_far (p := ⟨gb248, 0, none⟩) (Kd.R_types HO_6.out BK248.out (by decide)) (fun _ hk => hk.2) (.int .i64 ((rd_T51 ((rd_T49 l1 x7_1).f1) x8_2).f0))) (fun _ hk => hk.2) (.int .i64 ((rd_T51 ((rd_T49 l1 x7_1).f1) x8_2).f1))) (fun _ hk => hk.2) (.int .i64 ((rd_T51 ((rd_T49 l1 x7_1).f1) x8_2).f2))) (fun _ h_ => h_.1))) hb); have n2_ := Aside0.mk (blk_below (g := gb242) (o := .cells #[.slice A0_0 l0_0.length c0_0, .slice A0_1 l0_1.length c0_1] 25 (0, 0)) (by (with_reducible repeat (first | refine blk_drewN ?_ _ | refine blk_drew ?_ | refine blk_alloc ?_ _)); refine blk_far ?_ NB242_248.out _; (with_reducible repeat (first | refine blk_drewN ?_ _ | refine blk_drew ?_ | refine blk_alloc ?_ _)); refine blk_far ?_ NB242_248.out _; (with_reducible repeat (first | refine blk_drewN ?_ _ | refine blk_drew ?_ | refine blk_alloc ?_ _)); refine blk_far ?_ NB242_248.out _; (with_reducible repeat (first | refine blk_drewN ?_ _ | refine blk_drew ?_ | refine blk_alloc ?_ _)); exact BK242.out) hb); have n3_ := Aside0.mk (blk_below (g := gb248) (o := .cells #[.int .i64 ((rd_T51 ((rd_T49 l1 x7_1).f1) x8_2).f0), .int .i64 ((rd_T51 ((rd_T49 l1 x7_1).f1) x8_2).f1), .int .i64 ((rd_T51 ((rd_T49 l1 x7_1).f1) x8_2).f2)] 51 (0, 0)) (by (with_reducible repeat (first | refine blk_drewN ?_ _ | refine blk_drew ?_ | refine blk_alloc ?_ _)); refine blk_put (cs := #[.int .i64 ((rd_T51 ((rd_T49 l1 x7_1).f1) x8_2).f0), .int .i64 ((rd_T51 ((rd_T49 l1 x7_1).f1) x8_2).f1), .int .i64 0]) ?_ 2 _ rfl; (with_reducible repeat (first | refine blk_drewN ?_ _ | refine blk_drew ?_ | refine blk_alloc ?_ _)); refine blk_put (cs := #[.int .i64 ((rd_T51 ((rd_T49 l1 x7_1).f1) x8_2).f0), .int .i64 0, .int .i64 0]) ?_ 1 _ rfl; (with_reducible repeat (first | refine blk_drewN ?_ _ | refine blk_drew ?_ | refine blk_alloc ?_ _)); refine blk_put (cs := #[.int .i64 0, .int .i64 0, .int .i64 0]) ?_ 0 _ rfl; (with_reducible repeat (first | refine blk_drewN ?_ _ | refine blk_drew ?_ | refine blk_alloc ?_ _)); exact BK248.out) hb); have n4_ := Aside0.mk (below_step (by repeat (first | (with_reducible first | exact HB.out | apply below_alloc | apply pw_below_drewN | apply below_drew1 | refine below_set ?_ GE242.out | refine below_set ?_ GE248.out) | exact HB.out)) hb); clear HO_5; clear HO_6; clear BK242; clear BK248; clear HB; have HO_5 := n0_; have HO_6 := n1_; have BK242 := n2_; have BK248 := n3_; have HB := n4_; clear n0_ n1_ n2_ n3_ n4_; (try clear hb); (try clear hb2); (try clear hk); (try clear hi); have hcz20_0 : w19.cell? ⟨gb248, 0, none⟩ = some (.int .i64 ((rd_T51 ((rd_T49 l1 x7_1).f1) x8_2).f0)) := (blk_cell BK248.out 0).trans rfl; have hcz20_1 : w19.cell? ⟨gb248, 1, none⟩ = some (.int .i64 ((rd_T51 ((rd_T49 l1 x7_1).f1) x8_2).f1)) := (blk_cell BK248.out 1).trans rfl; have hcz20_2 : w19.cell? ⟨gb248, 2, none⟩ = some (.int .i64 ((rd_T51 ((rd_T49 l1 x7_1).f1) x8_2).f2)) := (blk_cell BK248.out 2).trans rfl; have hfz20_0 := blk_frozen BK248.out 0; have hfz20_1 := blk_frozen BK248.out 1; have hfz20_2 := blk_frozen BK248.out 2; obtain ⟨Ao21, co21, eo21⟩ := Kd.R_slice HO_5.out; subst eo21) | (go_at_call 24; (with_reducible refine (cohousingref23_In.calls k2 _ _ x5_2 ((rd_T51 ((rd_T49 l1 x7_1).f1) x8_2).f0) t250 _ ?side1 ?side2 A13.out).mono ?_); (case side1 => exact cc_ ((Kd.R_reads' HO_5.out).2.2)); (case side2 => exact (Kd.R_reads' HO_5.out).2.1); rintro e w' ⟨rfl, ⟨nd, rfl⟩⟩))
             go_ret
             exact ⟨ew_, by repeat (first | (with_reducible first | exact HB.out | apply below_alloc | apply pw_below_drewN | apply below_drew1 | refine below_set ?_ GE242.out | refine below_set ?_ GE248.out) | exact HB.out)⟩
            ·rw [if_neg c14] at H
             have c14b0 : decide (0 ≤ t250) = false := decide_eq_false c14
             clear c14
             replace H := Option.bind_eq_some_iff.mp H
             obtain ⟨t251, A220, H⟩ := H
             replace H : (if t251 ≥ 0 then (some false) else (if x5_2.length < 17592186044416 then (if x6_2.length < 17592186044416 then (cohousingref26_Rings.l1 k2 l1 (x5_2 ++ [(rd_T51 ((rd_T49 l1 x7_1).f1) x8_2).f0]) (x6_2 ++ [(rd_T51 ((rd_T49 l1 x7_1).f1) x8_2).f2]) x7_1 (wrap64 (x8_2 + 1)) l0_0 l0_1) else (none)) else (none))) = some r := H
             have A22 := Aside0.mk A220
             clear A220
             by_cases c23 : t251 ≥ 0
             ·rw [if_pos c23] at H
              have c23b0 : decide (0 ≤ t251) = true := decide_eq_true c23
              clear c23
              obtain rfl := Option.some.inj H
              have p243 : 0 ≤ (x7_1 : Int) := od_
              have q243 : x7_1 < (l1.length : Int) := od_
              obtain ⟨ad243, A243_1, c243_1, e243, hx243_0, hx243_1, hl243_1, hi243_1⟩ := at_T49 HR1.out x7_1 p243 q243
              cases e243
              replace hx243_0 := (HB.out.cell (World.block_lt_of_cell? w _ hx243_0)).trans hx243_0
              replace hx243_1 := (HB.out.cell (World.block_lt_of_cell? w _ hx243_1)).trans hx243_1
              have HR243_1 := Aside0.mk hi243_1
              have HC243_1 := Aside0.mk hl243_1
              clear hi243_1 hl243_1
              replace p243 := eq_true p243
              replace q243 := eq_true q243
              have p246 : 0 ≤ (x7_1 : Int) := od_
              have q246 : x7_1 < (l1.length : Int) := od_
              obtain ⟨ad246, A246_1, c246_1, e246, hx246_0, hx246_1, hl246_1, hi246_1⟩ := at_T49 HR1.out x7_1 p246 q246
              obtain rfl : ad243 = ad246 := (by injection e246)
              replace hx246_0 := (HB.out.cell (World.block_lt_of_cell? w _ hx246_0)).trans hx246_0
              replace hx246_1 := (HB.out.cell (World.block_lt_of_cell? w _ hx246_1)).trans hx246_1
              have HR246_1 := Aside0.mk hi246_1
              have HC246_1 := Aside0.mk hl246_1
              clear hi246_1 hl246_1
              replace p246 := eq_true p246
              replace q246 := eq_true q246
              have ea_ := Option.some.inj (hx243_1.symm.trans hx246_1)
              injection ea_ with ea_ en_ ec_
              subst ea_
              subst ec_
              clear en_
              have p247 : 0 ≤ (x8_2 : Int) := od_
              have q247 : x8_2 < (((rd_T49 l1 x7_1).f1).length : Int) := od_
              obtain ⟨ad247, e247, hx247_0, hx247_1, hx247_2⟩ := at_T51 HR246_1.out x8_2 p247 q247
              cases e247
              replace hx247_0 := (HB.out.cell (World.block_lt_of_cell? w _ hx247_0)).trans hx247_0
              replace hx247_1 := (HB.out.cell (World.block_lt_of_cell? w _ hx247_1)).trans hx247_1
              replace hx247_2 := (HB.out.cell (World.block_lt_of_cell? w _ hx247_2)).trans hx247_2
              replace p247 := eq_true p247
              replace q247 := eq_true q247
              go_wp2_with (first | ((with_reducible refine gate_dst (N := 9) rfl ?_); refine box_event ?hg (N := 9) ?hd (cs := #[.int .i64 0, .int .i64 0, .int .i64 0]) (t := 51) ?hr ?_; (case hd => rfl); (case hg => rfl); (case hr => first | (go_simp; done) | (go_simp; rfl)); intro gb248 hg w24 hbox hb; have n0_ := Aside0.mk (Kd.R_below (rr_ HO_5) hb); have n1_ := Aside0.mk (Kd.R_below (rr_ HO_6) hb); have n2_ := Aside0.mk (blk_below (g := gb242) (o := .cells #[.slice A0_0 l0_0.length c0_0, .slice A0_1 l0_1.length c0_1] 25 (0, 0)) (kk_ BK242) hb); have n3_ := Aside0.mk (below_step (bs_ HB GE242.out) hb); have n4_ := Aside0.mk (hbox); have n5_ := Aside0.mk ((by rw [hg]; exact (below_size (bs_ HB GE242.out)) : w.heap.size ≤ gb248)); have n6_ := Aside0.mk ((by rw [hg]; exact (below_size (bs_ HB GE242.out)) : w.heap.size ≤ gb248)); have n7_ := Aside0.mk ((by rw [hg]; exact Nat.ne_of_lt (blk_lt (g := gb242) (o := .cells #[.slice A0_0 l0_0.length c0_0, .slice A0_1 l0_1.length c0_1] 25 (0, 0)) (kk_ BK242)) : gb242 ≠ gb248)); have n8_ := Aside0.mk ((by rw [hg]; exact Nat.ne_of_gt (blk_lt (g := gb242) (o := .cells #[.slice A0_0 l0_0.length c0_0, .slice A0_1 l0_1.length c0_1] 25 (0, 0)) (kk_ BK242)) : gb248 ≠ gb242)); clear HO_5; clear HO_6; clear BK242; clear HB; have HO_5 := n0_; have HO_6 := n1_; have BK242 := n2_; have HB := n3_; have BK248 := n4_; have GW248 := n5_; have GE248 := n6_; have NB242_248 := n7_; have NB248_242 := n8_; clear n0_ n1_ n2_ n3_ n4_ n5_ n6_ n7_ n8_; clear hb hbox hg; have hnb25 := NB248_242.out; have hnc25 := NB242_248.out; have hcz26_0 : w24.cell? ⟨gb248, 0, none⟩ = some (.int .i64 0) := (blk_cell BK248.out 0).trans rfl; have hcz26_1 : w24.cell? ⟨gb248, 1, none⟩ = some (.int .i64 0) := (blk_cell BK248.out 1).trans rfl; have hcz26_2 : w24.cell? ⟨gb248, 2, none⟩ = some (.int .i64 0) := (blk_cell BK248.out 2).trans rfl; have hfz26_0 := blk_frozen BK248.out 0; have hfz26_1 := blk_frozen BK248.out 1; have hfz26_2 := blk_frozen BK248.out 2; have hcz27_0 : w24.cell? ⟨gb242, 0, none⟩ = some (.slice A0_0 l0_0.length c0_0) := (blk_cell BK242.out 0).trans rfl; have hcz27_1 : w24.cell? ⟨gb242, 1, none⟩ = some (.slice A0_1 l0_1.length c0_1) := (blk_cell BK242.out 1).trans rfl; have hfz27_0 := blk_frozen BK242.out 0; have hfz27_1 := blk_frozen BK242.out 1) | ((with_reducible refine gate_callee (f := 41) rfl ?_); refine gl_ (some 41) Try.func41 #[.agg #[.slice A0_0 l0_0.length c0_0, .slice A0_1 l0_1.length c0_1], .agg #[.int .i64 ((rd_T51 ((rd_T49 l1 x7_1).f1) x8_2).f0), .int .i64 ((rd_T51 ((rd_T49 l1 x7_1).f1) x8_2).f1), .int .i64 ((rd_T51 ((rd_T49 l1 x7_1).f1) x8_2).f2)]] ?_; (with_reducible refine (cohousingref26_move.calls k2 _ _ l0_0 _ _ l0_1 ((rd_T51 ((rd_T49 l1 x7_1).f1) x8_2).f0) ((rd_T51 ((rd_T49 l1 x7_1).f1) x8_2).f1) ((rd_T51 ((rd_T49 l1 x7_1).f1) x8_2).f2) true _ ?side1 ?side2 ?side3 ?side4 A11.out).mono ?_); (case side1 => exact Kd.C_below HR0_0.out (by repeat (first | (with_reducible first | exact HB.out | apply below_alloc | apply pw_below_drewN | apply below_drew1 | refine below_set ?_ GE242.out | refine below_set ?_ GE248.out) | exact HB.out))); (case side2 => exact HC0_0.out); (case side3 => exact Kd.C_below HR0_1.out (by repeat (first | (with_reducible first | exact HB.out | apply below_alloc | apply pw_below_drewN | apply below_drew1 | refine below_set ?_ GE242.out | refine below_set ?_ GE248.out) | exact HB.out))); (case side4 => exact HC0_1.out); rintro e w28 ⟨rfl, hb⟩; refine ⟨_, rfl, ?_⟩; have n0_ := Aside0.mk (Kd.R_below (by (with_reducible repeat (first | apply Kd.R_alloc | apply Kd.R_drewN | apply Kd.R_drew)); exact (Kd.R_mono (Kd.R_far (p := ⟨gb248, 2, none⟩) (Kd.R_far (p := ⟨gb248, 1, none⟩) (Kd.R_far (p := ⟨gb248, 0, none⟩) (Kd.R_types HO_5.out BK248.out (by decide)) (fun _ hk => hk.2) (.int .i64 ((rd_T51 ((rd_T49 l1 x7_1).f1) x8_2).f0))) (fun _ hk => hk.2) (.int .i64 ((rd_T51 ((rd_T49 l1 x7_1).f1) x8_2).f1))) (fun _ hk => hk.2) (.int .i64 ((rd_T51 ((rd_T49 l1 x7_1).f1) x8_2).f2))) (fun _ h_ => h_.1))) hb); have n1_ := Aside0.mk (Kd.R_below (by (with_reducible repeat (first | apply Kd.R_alloc | apply Kd.R_drewN | apply Kd.R_drew)); exact (Kd.R_mono (Kd.R_far (p := ⟨gb248, 2, none⟩) (Kd.R_far (p := ⟨gb248, 1, none⟩) (Kd.R_far (p := ⟨gb248, 0, none⟩) (Kd.R_types HO_6.out BK248.out (by decide)) (fun _ hk => hk.2) (.int .i64 ((rd_T51 ((rd_T49 l1 x7_1).f1) x8_2).f0))) (fun _ hk => hk.2) (.int .i64 ((rd_T51 ((rd_T49 l1 x7_1).f1) x8_2).f1))) (fun _ hk => hk.2) (.int .i64 ((rd_T51 ((rd_T49 l1 x7_1).f1) x8_2).f2))) (fun _ h_ => h_.1))) hb); have n2_ := Aside0.mk (blk_below (g := gb242) (o := .cells #[.slice A0_0 l0_0.length c0_0, .slice A0_1 l0_1.length c0_1] 25 (0, 0)) (by (with_reducible repeat (first | refine blk_drewN ?_ _ | refine blk_drew ?_ | refine blk_alloc ?_ _)); refine blk_far ?_ NB242_248.out _; (with_reducible repeat (first | refine blk_drewN ?_ _ | refine blk_drew ?_ | refine blk_alloc ?_ _)); refine blk_far ?_ NB242_248.out _; (with_reducible repeat (first | refine blk_drewN ?_ _ | refine blk_drew ?_ | refine blk_alloc ?_ _)); refine blk_far ?_ NB242_248.out _; (with_reducible repeat (first | refine blk_drewN ?_ _ | refine blk_drew ?_ | refine blk_alloc ?_ _)); exact BK242.out) hb); have n3_ := Aside0.mk (blk_below (g := gb248) (o := .cells #[.int .i64 ((rd_T51 ((rd_T49 l1 x7_1).f1) x8_2).f0), .int .i64 ((rd_T51 ((rd_T49 l1 x7_1).f1) x8_2).f1), .int .i64 ((rd_T51 ((rd_T49 l1 x7_1).f1) x8_2).f2)] 51 (0, 0)) (by (with_reducible repeat (first | refine blk_drewN ?_ _ | refine blk_drew ?_ | refine blk_alloc ?_ _)); refine blk_put (cs := #[.int .i64 ((rd_T51 ((rd_T49 l1 x7_1).f1) x8_2).f0), .int .i64 ((rd_T51 ((rd_T49 l1 x7_1).f1) x8_2).f1), .int .i64 0]) ?_ 2 _ rfl; (with_reducible repeat (first | refine blk_drewN ?_ _ | refine blk_drew ?_ | refine blk_alloc ?_ _)); refine blk_put (cs := #[.int .i64 ((rd_T51 ((rd_T49 l1 x7_1).f1) x8_2).f0), .int .i64 0, .int .i64 0]) ?_ 1 _ rfl; (with_reducible repeat (first | refine blk_drewN ?_ _ | refine blk_drew ?_ | refine blk_alloc ?_ _)); refine blk_put (cs := #[.int .i64 0, .int .i64 0, .int .i64 0]) ?_ 0 _ rfl; (with_reducible repeat (first | refine blk_drewN ?_ _ | refine blk_drew ?_ | refine blk_alloc ?_ _)); exact BK248.out) hb); have n4_ := Aside0.mk (below_step (by repeat (first | (with_reducible first | exact HB.out | apply below_alloc | apply pw_below_drewN | apply below_drew1 | refine below_set ?_ GE242.out | refine below_set ?_ GE248.out) | exact HB.out)) hb); clear HO_5; clear HO_6; clear BK242; clear BK248; clear HB; have HO_5 := n0_; have HO_6 := n1_; have BK242 := n2_; have BK248 := n3_; have HB := n4_; clear n0_ n1_ n2_ n3_ n4_; (try clear hb); (try clear hb2); (try clear hk); (try clear hi); have hcz29_0 : w28.cell? ⟨gb248, 0, none⟩ = some (.int .i64 ((rd_T51 ((rd_T49 l1 x7_1).f1) x8_2).f0)) := (blk_cell BK248.out 0).trans rfl; have hcz29_1 : w28.cell? ⟨gb248, 1, none⟩ = some (.int .i64 ((rd_T51 ((rd_T49 l1 x7_1).f1) x8_2).f1)) := (blk_cell BK248.out 1).trans rfl; have hcz29_2 : w28.cell? ⟨gb248, 2, none⟩ = some (.int .i64 ((rd_T51 ((rd_T49 l1 x7_1).f1) x8_2).f2)) := (blk_cell BK248.out 2).trans rfl; have hfz29_0 := blk_frozen BK248.out 0; have hfz29_1 := blk_frozen BK248.out 1; have hfz29_2 := blk_frozen BK248.out 2; obtain ⟨Ao30, co30, eo30⟩ := Kd.R_slice HO_5.out; subst eo30) | (go_at_call 24; (with_reducible refine (cohousingref23_In.calls k2 _ _ x5_2 ((rd_T51 ((rd_T49 l1 x7_1).f1) x8_2).f0) t250 _ ?side1 ?side2 A13.out).mono ?_); (case side1 => exact cc_ ((Kd.R_reads' HO_5.out).2.2)); (case side2 => exact (Kd.R_reads' HO_5.out).2.1); rintro e w' ⟨rfl, ⟨nd, rfl⟩⟩; obtain ⟨Ao31, co31, eo31⟩ := Kd.R_slice HO_6.out; subst eo31) | (go_at_call 24; (with_reducible refine (cohousingref23_In.calls k2 _ _ x6_2 ((rd_T51 ((rd_T49 l1 x7_1).f1) x8_2).f2) t251 _ ?side1 ?side2 A22.out).mono ?_); (case side1 => exact cc_ ((Kd.R_reads' HO_6.out).2.2)); (case side2 => exact (Kd.R_reads' HO_6.out).2.1); rintro e w' ⟨rfl, ⟨nd, rfl⟩⟩))
              go_ret
              exact ⟨ew_, by repeat (first | (with_reducible first | exact HB.out | apply below_alloc | apply pw_below_drewN | apply below_drew1 | refine below_set ?_ GE242.out | refine below_set ?_ GE248.out) | exact HB.out)⟩
             ·rw [if_neg c23] at H
              have c23b0 : decide (0 ≤ t251) = false := decide_eq_false c23
              clear c23
              by_cases c32 : x5_2.length < 17592186044416
              ·rw [if_pos c32] at H
               have LMc32 := Aside0.mk c32
               clear c32
               obtain ⟨y252, hy252⟩ : ∃ y_ : List Int, y_ = (x5_2 ++ [(rd_T51 ((rd_T49 l1 x7_1).f1) x8_2).f0]) := ⟨_, rfl⟩
               replace H : (if x6_2.length < 17592186044416 then (cohousingref26_Rings.l1 k2 l1 y252 (x6_2 ++ [(rd_T51 ((rd_T49 l1 x7_1).f1) x8_2).f2]) x7_1 (wrap64 (x8_2 + 1)) l0_0 l0_1) else (none)) = some r := by first | (rw [hy252]; with_reducible exact H) | (have H2_ := (Option.bind_some _ _).symm.trans H; rw [hy252]; with_reducible exact H2_) | (have H2_ := (Option.bind_some _ _).symm.trans H; with_reducible exact H2_) | with_reducible exact H | (rw [hy252]; exact H) | exact H
               have Ny252 := Aside0.mk hy252
               clear hy252
               by_cases c33 : x6_2.length < 17592186044416
               ·rw [if_pos c33] at H
                have LMc33 := Aside0.mk c33
                clear c33
                obtain ⟨y255, hy255⟩ : ∃ y_ : List Int, y_ = (x6_2 ++ [(rd_T51 ((rd_T49 l1 x7_1).f1) x8_2).f2]) := ⟨_, rfl⟩
                replace H : (cohousingref26_Rings.l1 k2 l1 y252 y255 x7_1 (wrap64 (x8_2 + 1)) l0_0 l0_1) = some r := by first | (rw [hy255]; with_reducible exact H) | (have H2_ := (Option.bind_some _ _).symm.trans H; rw [hy255]; with_reducible exact H2_) | (have H2_ := (Option.bind_some _ _).symm.trans H; with_reducible exact H2_) | with_reducible exact H | (rw [hy255]; exact H) | exact H
                have Ny255 := Aside0.mk hy255
                clear hy255
                have H' := Aside0.mk H
                clear H
                have p243 : 0 ≤ (x7_1 : Int) := od_
                have q243 : x7_1 < (l1.length : Int) := od_
                obtain ⟨ad243, A243_1, c243_1, e243, hx243_0, hx243_1, hl243_1, hi243_1⟩ := at_T49 HR1.out x7_1 p243 q243
                cases e243
                replace hx243_0 := (HB.out.cell (World.block_lt_of_cell? w _ hx243_0)).trans hx243_0
                replace hx243_1 := (HB.out.cell (World.block_lt_of_cell? w _ hx243_1)).trans hx243_1
                have HR243_1 := Aside0.mk hi243_1
                have HC243_1 := Aside0.mk hl243_1
                clear hi243_1 hl243_1
                replace p243 := eq_true p243
                replace q243 := eq_true q243
                have p246 : 0 ≤ (x7_1 : Int) := od_
                have q246 : x7_1 < (l1.length : Int) := od_
                obtain ⟨ad246, A246_1, c246_1, e246, hx246_0, hx246_1, hl246_1, hi246_1⟩ := at_T49 HR1.out x7_1 p246 q246
                obtain rfl : ad243 = ad246 := (by injection e246)
                replace hx246_0 := (HB.out.cell (World.block_lt_of_cell? w _ hx246_0)).trans hx246_0
                replace hx246_1 := (HB.out.cell (World.block_lt_of_cell? w _ hx246_1)).trans hx246_1
                have HR246_1 := Aside0.mk hi246_1
                have HC246_1 := Aside0.mk hl246_1
                clear hi246_1 hl246_1
                replace p246 := eq_true p246
                replace q246 := eq_true q246
                have ea_ := Option.some.inj (hx243_1.symm.trans hx246_1)
                injection ea_ with ea_ en_ ec_
                subst ea_
                subst ec_
                clear en_
                have p247 : 0 ≤ (x8_2 : Int) := od_
                have q247 : x8_2 < (((rd_T49 l1 x7_1).f1).length : Int) := od_
                obtain ⟨ad247, e247, hx247_0, hx247_1, hx247_2⟩ := at_T51 HR246_1.out x8_2 p247 q247
                cases e247
                replace hx247_0 := (HB.out.cell (World.block_lt_of_cell? w _ hx247_0)).trans hx247_0
                replace hx247_1 := (HB.out.cell (World.block_lt_of_cell? w _ hx247_1)).trans hx247_1
                replace hx247_2 := (HB.out.cell (World.block_lt_of_cell? w _ hx247_2)).trans hx247_2
                replace p247 := eq_true p247
                replace q247 := eq_true q247
                go_wp2_with (first | ((with_reducible refine gate_dst (N := 9) rfl ?_); refine box_event ?hg (N := 9) ?hd (cs := #[.int .i64 0, .int .i64 0, .int .i64 0]) (t := 51) ?hr ?_; (case hd => rfl); (case hg => rfl); (case hr => first | (go_simp; done) | (go_simp; rfl)); intro gb248 hg w34 hbox hb; have n0_ := Aside0.mk (Kd.R_below (rr_ HO_5) hb); have n1_ := Aside0.mk (Kd.R_below (rr_ HO_6) hb); have n2_ := Aside0.mk (blk_below (g := gb242) (o := .cells #[.slice A0_0 l0_0.length c0_0, .slice A0_1 l0_1.length c0_1] 25 (0, 0)) (kk_ BK242) hb); have n3_ := Aside0.mk (below_step (bs_ HB GE242.out) hb); have n4_ := Aside0.mk (hbox); have n5_ := Aside0.mk ((by rw [hg]; exact (below_size (bs_ HB GE242.out)) : w.heap.size ≤ gb248)); have n6_ := Aside0.mk ((by rw [hg]; exact (below_size (bs_ HB GE242.out)) : w.heap.size ≤ gb248)); have n7_ := Aside0.mk ((by rw [hg]; exact Nat.ne_of_lt (blk_lt (g := gb242) (o := .cells #[.slice A0_0 l0_0.length c0_0, .slice A0_1 l0_1.length c0_1] 25 (0, 0)) (kk_ BK242)) : gb242 ≠ gb248)); have n8_ := Aside0.mk ((by rw [hg]; exact Nat.ne_of_gt (blk_lt (g := gb242) (o := .cells #[.slice A0_0 l0_0.length c0_0, .slice A0_1 l0_1.length c0_1] 25 (0, 0)) (kk_ BK242)) : gb248 ≠ gb242)); clear HO_5; clear HO_6; clear BK242; clear HB; have HO_5 := n0_; have HO_6 := n1_; have BK242 := n2_; have HB := n3_; have BK248 := n4_; have GW248 := n5_; have GE248 := n6_; have NB242_248 := n7_; have NB248_242 := n8_; clear n0_ n1_ n2_ n3_ n4_ n5_ n6_ n7_ n8_; clear hb hbox hg; have hnb35 := NB248_242.out; have hnc35 := NB242_248.out; have hcz36_0 : w34.cell? ⟨gb248, 0, none⟩ = some (.int .i64 0) := (blk_cell BK248.out 0).trans rfl; have hcz36_1 : w34.cell? ⟨gb248, 1, none⟩ = some (.int .i64 0) := (blk_cell BK248.out 1).trans rfl; have hcz36_2 : w34.cell? ⟨gb248, 2, none⟩ = some (.int .i64 0) := (blk_cell BK248.out 2).trans rfl; have hfz36_0 := blk_frozen BK248.out 0; have hfz36_1 := blk_frozen BK248.out 1; have hfz36_2 := blk_frozen BK248.out 2; have hcz37_0 : w34.cell? ⟨gb242, 0, none⟩ = some (.slice A0_0 l0_0.length c0_0) := (blk_cell BK242.out 0).trans rfl; have hcz37_1 : w34.cell? ⟨gb242, 1, none⟩ = some (.slice A0_1 l0_1.length c0_1) := (blk_cell BK242.out 1).trans rfl; have hfz37_0 := blk_frozen BK242.out 0; have hfz37_1 := blk_frozen BK242.out 1) | ((with_reducible refine gate_callee (f := 41) rfl ?_); refine gl_ (some 41) Try.func41 #[.agg #[.slice A0_0 l0_0.length c0_0, .slice A0_1 l0_1.length c0_1], .agg #[.int .i64 ((rd_T51 ((rd_T49 l1 x7_1).f1) x8_2).f0), .int .i64 ((rd_T51 ((rd_T49 l1 x7_1).f1) x8_2).f1), .int .i64 ((rd_T51 ((rd_T49 l1 x7_1).f1) x8_2).f2)]] ?_; (with_reducible refine (cohousingref26_move.calls k2 _ _ l0_0 _ _ l0_1 ((rd_T51 ((rd_T49 l1 x7_1).f1) x8_2).f0) ((rd_T51 ((rd_T49 l1 x7_1).f1) x8_2).f1) ((rd_T51 ((rd_T49 l1 x7_1).f1) x8_2).f2) true _ ?side1 ?side2 ?side3 ?side4 A11.out).mono ?_); (case side1 => exact Kd.C_below HR0_0.out (by repeat (first | (with_reducible first | exact HB.out | apply below_alloc | apply pw_below_drewN | apply below_drew1 | refine below_set ?_ GE242.out | refine below_set ?_ GE248.out) | exact HB.out))); (case side2 => exact HC0_0.out); (case side3 => exact Kd.C_below HR0_1.out (by repeat (first | (with_reducible first | exact HB.out | apply below_alloc | apply pw_below_drewN | apply below_drew1 | refine below_set ?_ GE242.out | refine below_set ?_ GE248.out) | exact HB.out))); (case side4 => exact HC0_1.out); rintro e w38 ⟨rfl, hb⟩; refine ⟨_, rfl, ?_⟩; have n0_ := Aside0.mk (Kd.R_below (by (with_reducible repeat (first | apply Kd.R_alloc | apply Kd.R_drewN | apply Kd.R_drew)); exact (Kd.R_mono (Kd.R_far (p := ⟨gb248, 2, none⟩) (Kd.R_far (p := ⟨gb248, 1, none⟩) (Kd.R_far (p := ⟨gb248, 0, none⟩) (Kd.R_types HO_5.out BK248.out (by decide)) (fun _ hk => hk.2) (.int .i64 ((rd_T51 ((rd_T49 l1 x7_1).f1) x8_2).f0))) (fun _ hk => hk.2) (.int .i64 ((rd_T51 ((rd_T49 l1 x7_1).f1) x8_2).f1))) (fun _ hk => hk.2) (.int .i64 ((rd_T51 ((rd_T49 l1 x7_1).f1) x8_2).f2))) (fun _ h_ => h_.1))) hb); have n1_ := Aside0.mk (Kd.R_below (by (with_reducible repeat (first | apply Kd.R_alloc | apply Kd.R_drewN | apply Kd.R_drew)); exact (Kd.R_mono (Kd.R_far (p := ⟨gb248, 2, none⟩) (Kd.R_far (p := ⟨gb248, 1, none⟩) (Kd.R_far (p := ⟨gb248, 0, none⟩) (Kd.R_types HO_6.out BK248.out (by decide)) (fun _ hk => hk.2) (.int .i64 ((rd_T51 ((rd_T49 l1 x7_1).f1) x8_2).f0))) (fun _ hk => hk.2) (.int .i64 ((rd_T51 ((rd_T49 l1 x7_1).f1) x8_2).f1))) (fun _ hk => hk.2) (.int .i64 ((rd_T51 ((rd_T49 l1 x7_1).f1) x8_2).f2))) (fun _ h_ => h_.1))) hb); have n2_ := Aside0.mk (blk_below (g := gb242) (o := .cells #[.slice A0_0 l0_0.length c0_0, .slice A0_1 l0_1.length c0_1] 25 (0, 0)) (by (with_reducible repeat (first | refine blk_drewN ?_ _ | refine blk_drew ?_ | refine blk_alloc ?_ _)); refine blk_far ?_ NB242_248.out _; (with_reducible repeat (first | refine blk_drewN ?_ _ | refine blk_drew ?_ | refine blk_alloc ?_ _)); refine blk_far ?_ NB242_248.out _; (with_reducible repeat (first | refine blk_drewN ?_ _ | refine blk_drew ?_ | refine blk_alloc ?_ _)); refine blk_far ?_ NB242_248.out _; (with_reducible repeat (first | refine blk_drewN ?_ _ | refine blk_drew ?_ | refine blk_alloc ?_ _)); exact BK242.out) hb); have n3_ := Aside0.mk (blk_below (g := gb248) (o := .cells #[.int .i64 ((rd_T51 ((rd_T49 l1 x7_1).f1) x8_2).f0), .int .i64 ((rd_T51 ((rd_T49 l1 x7_1).f1) x8_2).f1), .int .i64 ((rd_T51 ((rd_T49 l1 x7_1).f1) x8_2).f2)] 51 (0, 0)) (by (with_reducible repeat (first | refine blk_drewN ?_ _ | refine blk_drew ?_ | refine blk_alloc ?_ _)); refine blk_put (cs := #[.int .i64 ((rd_T51 ((rd_T49 l1 x7_1).f1) x8_2).f0), .int .i64 ((rd_T51 ((rd_T49 l1 x7_1).f1) x8_2).f1), .int .i64 0]) ?_ 2 _ rfl; (with_reducible repeat (first | refine blk_drewN ?_ _ | refine blk_drew ?_ | refine blk_alloc ?_ _)); refine blk_put (cs := #[.int .i64 ((rd_T51 ((rd_T49 l1 x7_1).f1) x8_2).f0), .int .i64 0, .int .i64 0]) ?_ 1 _ rfl; (with_reducible repeat (first | refine blk_drewN ?_ _ | refine blk_drew ?_ | refine blk_alloc ?_ _)); refine blk_put (cs := #[.int .i64 0, .int .i64 0, .int .i64 0]) ?_ 0 _ rfl; (with_reducible repeat (first | refine blk_drewN ?_ _ | refine blk_drew ?_ | refine blk_alloc ?_ _)); exact BK248.out) hb); have n4_ := Aside0.mk (below_step (by repeat (first | (with_reducible first | exact HB.out | apply below_alloc | apply pw_below_drewN | apply below_drew1 | refine below_set ?_ GE242.out | refine below_set ?_ GE248.out) | exact HB.out)) hb); clear HO_5; clear HO_6; clear BK242; clear BK248; clear HB; have HO_5 := n0_; have HO_6 := n1_; have BK242 := n2_; have BK248 := n3_; have HB := n4_; clear n0_ n1_ n2_ n3_ n4_; (try clear hb); (try clear hb2); (try clear hk); (try clear hi); have hcz39_0 : w38.cell? ⟨gb248, 0, none⟩ = some (.int .i64 ((rd_T51 ((rd_T49 l1 x7_1).f1) x8_2).f0)) := (blk_cell BK248.out 0).trans rfl; have hcz39_1 : w38.cell? ⟨gb248, 1, none⟩ = some (.int .i64 ((rd_T51 ((rd_T49 l1 x7_1).f1) x8_2).f1)) := (blk_cell BK248.out 1).trans rfl; have hcz39_2 : w38.cell? ⟨gb248, 2, none⟩ = some (.int .i64 ((rd_T51 ((rd_T49 l1 x7_1).f1) x8_2).f2)) := (blk_cell BK248.out 2).trans rfl; have hfz39_0 := blk_frozen BK248.out 0; have hfz39_1 := blk_frozen BK248.out 1; have hfz39_2 := blk_frozen BK248.out 2; obtain ⟨Ao40, co40, eo40⟩ := Kd.R_slice HO_5.out; subst eo40) | (go_at_call 24; (with_reducible refine (cohousingref23_In.calls k2 _ _ x5_2 ((rd_T51 ((rd_T49 l1 x7_1).f1) x8_2).f0) t250 _ ?side1 ?side2 A13.out).mono ?_); (case side1 => exact cc_ ((Kd.R_reads' HO_5.out).2.2)); (case side2 => exact (Kd.R_reads' HO_5.out).2.1); rintro e w' ⟨rfl, ⟨nd, rfl⟩⟩; obtain ⟨Ao41, co41, eo41⟩ := Kd.R_slice HO_6.out; subst eo41) | (go_at_call 24; (with_reducible refine (cohousingref23_In.calls k2 _ _ x6_2 ((rd_T51 ((rd_T49 l1 x7_1).f1) x8_2).f2) t251 _ ?side1 ?side2 A22.out).mono ?_); (case side1 => exact cc_ ((Kd.R_reads' HO_6.out).2.2)); (case side2 => exact (Kd.R_reads' HO_6.out).2.1); rintro e w' ⟨rfl, ⟨nd, rfl⟩⟩) | ((with_reducible refine gate_builtin (b := .append) (xs := #[.tmp 58, .tmp 61]) rfl ?_); at_builtin; refine Kd.R_append (Kd.int .i64) (w0 := w) w.heap.size rfl (.tmp 58) (.tmp 61) 29 3 (.int .i64 0) 8 rfl Try.underlying29 info3 rfl (by decide) (by omega) (.slice Ao40 x5_2.length co40) x5_2 ((rd_T51 ((rd_T49 l1 x7_1).f1) x8_2).f0) [.int .i64 ((rd_T51 ((rd_T49 l1 x7_1).f1) x8_2).f0)] (fun k_ => some k_ ≠ (.slice Ao41 x6_2.length co41 : Value).ownBlock) (fun _ => False) rfl rfl ?aP (fun _ hk => hk.elim) ?aF ?aO ?aB ?aS ?aL ?_; (case aP => exact rfl); (case aB => exact (by repeat (first | (with_reducible first | exact HB.out | apply below_alloc | apply pw_below_drewN | apply below_drew1 | refine below_set ?_ GE242.out | refine below_set ?_ GE248.out) | exact HB.out))); (case aF => exact (fun k_ hk => Kd.fresh' (Kd.R_lt (rr_ HO_6)) k_ hk)); (case aO => exact (rr_ HO_5)); (case aS => exact (below_size (by repeat (first | (with_reducible first | exact HB.out | apply below_alloc | apply pw_below_drewN | apply below_drew1 | refine below_set ?_ GE242.out | refine below_set ?_ GE248.out) | exact HB.out)))); (case aL => have := LMc32.out; omega); intro v253 w42 ho hb hg hat; rw [← Ny252.out] at ho; have n0_ := Aside0.mk (Kd.R_after (ok := (fun _ => True)) (by (with_reducible repeat (first | apply Kd.R_alloc | apply Kd.R_drewN | apply Kd.R_drew)); exact Kd.R_mono HO_6.out (fun _ hk => ⟨trivial, hk⟩)) hg hat); have n1_ := Aside0.mk (blk_grown (g := gb242) (o := .cells #[.slice A0_0 l0_0.length c0_0, .slice A0_1 l0_1.length c0_1] 25 (0, 0)) (kk_ BK242) hg (Kd.R_ne HO_5.out BK242.out (by decide))); have n2_ := Aside0.mk (blk_grown (g := gb248) (o := .cells #[.int .i64 ((rd_T51 ((rd_T49 l1 x7_1).f1) x8_2).f0), .int .i64 ((rd_T51 ((rd_T49 l1 x7_1).f1) x8_2).f1), .int .i64 ((rd_T51 ((rd_T49 l1 x7_1).f1) x8_2).f2)] 51 (0, 0)) (kk_ BK248) hg (Kd.R_ne HO_5.out BK248.out (by decide))); have n3_ := Aside0.mk (hb); have n4_ := Aside0.mk (ho); clear HO_6; clear BK242; clear BK248; clear HB; clear HO_5; have HO_6 := n0_; have BK242 := n1_; have BK248 := n2_; have HB := n3_; have HO254 := n4_; clear n0_ n1_ n2_ n3_ n4_; clear ho hb hg hat; have hcz43_0 : w42.cell? ⟨gb248, 0, none⟩ = some (.int .i64 ((rd_T51 ((rd_T49 l1 x7_1).f1) x8_2).f0)) := (blk_cell BK248.out 0).trans rfl; have hcz43_1 : w42.cell? ⟨gb248, 1, none⟩ = some (.int .i64 ((rd_T51 ((rd_T49 l1 x7_1).f1) x8_2).f1)) := (blk_cell BK248.out 1).trans rfl; have hcz43_2 : w42.cell? ⟨gb248, 2, none⟩ = some (.int .i64 ((rd_T51 ((rd_T49 l1 x7_1).f1) x8_2).f2)) := (blk_cell BK248.out 2).trans rfl; have hfz43_0 := blk_frozen BK248.out 0; have hfz43_1 := blk_frozen BK248.out 1; have hfz43_2 := blk_frozen BK248.out 2) | ((with_reducible refine gate_builtin (b := .append) (xs := #[.tmp 63, .tmp 66]) rfl ?_); at_builtin; refine Kd.R_append (Kd.int .i64) (w0 := w) w.heap.size rfl (.tmp 63) (.tmp 66) 29 3 (.int .i64 0) 8 rfl Try.underlying29 info3 rfl (by decide) (by omega) (.slice Ao41 x6_2.length co41) x6_2 ((rd_T51 ((rd_T49 l1 x7_1).f1) x8_2).f2) [.int .i64 ((rd_T51 ((rd_T49 l1 x7_1).f1) x8_2).f2)] (fun k_ => some k_ ≠ (v253 : Value).ownBlock) (fun _ => False) rfl rfl ?aP (fun _ hk => hk.elim) ?aF ?aO ?aB ?aS ?aL ?_; (case aP => exact rfl); (case aB => exact (by repeat (first | (with_reducible first | exact HB.out | apply below_alloc | apply pw_below_drewN | apply below_drew1 | refine below_set ?_ GE242.out | refine below_set ?_ GE248.out) | exact HB.out))); (case aF => exact (fun k_ hk => Kd.fresh' (Kd.R_lt (rr_ HO254)) k_ hk)); (case aO => exact (by (with_reducible repeat (first | apply Kd.R_alloc | apply Kd.R_drewN | apply Kd.R_drew)); exact Kd.R_mono HO_6.out (fun _ hk => hk.2))); (case aS => exact (below_size (by repeat (first | (with_reducible first | exact HB.out | apply below_alloc | apply pw_below_drewN | apply below_drew1 | refine below_set ?_ GE242.out | refine below_set ?_ GE248.out) | exact HB.out)))); (case aL => have := LMc33.out; omega); intro v256 w44 ho hb hg hat; rw [← Ny255.out] at ho; have n0_ := Aside0.mk (blk_grown (g := gb242) (o := .cells #[.slice A0_0 l0_0.length c0_0, .slice A0_1 l0_1.length c0_1] 25 (0, 0)) (kk_ BK242) hg (Kd.R_ne HO_6.out BK242.out (by decide))); have n1_ := Aside0.mk (blk_grown (g := gb248) (o := .cells #[.int .i64 ((rd_T51 ((rd_T49 l1 x7_1).f1) x8_2).f0), .int .i64 ((rd_T51 ((rd_T49 l1 x7_1).f1) x8_2).f1), .int .i64 ((rd_T51 ((rd_T49 l1 x7_1).f1) x8_2).f2)] 51 (0, 0)) (kk_ BK248) hg (Kd.R_ne HO_6.out BK248.out (by decide))); have n2_ := Aside0.mk (Kd.R_after (ok := (fun _ => True)) (by (with_reducible repeat (first | apply Kd.R_alloc | apply Kd.R_drewN | apply Kd.R_drew)); exact Kd.R_mono HO254.out (fun _ hk => ⟨trivial, hk⟩)) hg hat); have n3_ := Aside0.mk (hb); have n4_ := Aside0.mk (ho); clear BK242; clear BK248; clear HO254; clear HB; clear HO_6; have BK242 := n0_; have BK248 := n1_; have HO254 := n2_; have HB := n3_; have HO257 := n4_; clear n0_ n1_ n2_ n3_ n4_; clear ho hb hg hat))
                go_roundg k2
                case measure => have := HK1.out; have := HK2.out; omega
                case rel => exact ⟨(y252), (y255), (wrap64 (x8_2 + 1)), sd_, H', ⟨by have := HK1.out; have := HK2.out; omega⟩, ⟨by (with_reducible repeat (first | apply Kd.R_alloc | apply Kd.R_drewN | apply Kd.R_drew)); exact Kd.R_mono HO254.out (fun _ hk => hk.2)⟩, ⟨by (with_reducible repeat (first | apply Kd.R_alloc | apply Kd.R_drewN | apply Kd.R_drew)); exact HO257.out⟩, ⟨by (with_reducible repeat (first | refine blk_drewN ?_ _ | refine blk_drew ?_ | refine blk_alloc ?_ _)); exact BK242.out⟩, ⟨by repeat (first | (with_reducible first | exact HB.out | apply below_alloc | apply pw_below_drewN | apply below_drew1 | refine below_set ?_ GE242.out | refine below_set ?_ GE248.out) | exact HB.out)⟩⟩
               ·rw [if_neg c33] at H
                exact absurd H (by simp)
              ·rw [if_neg c32] at H
               exact absurd H (by simp)
           ·replace c12 := Bool.eq_false_iff.mpr c12
            subst c12
            have H1 : (some false) = some r := by rw [if_neg (show ¬ (false = true) by decide)] at H; exact H
            clear H
            have H := H1
            clear H1
            obtain rfl := Option.some.inj H
            have p243 : 0 ≤ (x7_1 : Int) := od_
            have q243 : x7_1 < (l1.length : Int) := od_
            obtain ⟨ad243, A243_1, c243_1, e243, hx243_0, hx243_1, hl243_1, hi243_1⟩ := at_T49 HR1.out x7_1 p243 q243
            cases e243
            replace hx243_0 := (HB.out.cell (World.block_lt_of_cell? w _ hx243_0)).trans hx243_0
            replace hx243_1 := (HB.out.cell (World.block_lt_of_cell? w _ hx243_1)).trans hx243_1
            have HR243_1 := Aside0.mk hi243_1
            have HC243_1 := Aside0.mk hl243_1
            clear hi243_1 hl243_1
            replace p243 := eq_true p243
            replace q243 := eq_true q243
            have p246 : 0 ≤ (x7_1 : Int) := od_
            have q246 : x7_1 < (l1.length : Int) := od_
            obtain ⟨ad246, A246_1, c246_1, e246, hx246_0, hx246_1, hl246_1, hi246_1⟩ := at_T49 HR1.out x7_1 p246 q246
            obtain rfl : ad243 = ad246 := (by injection e246)
            replace hx246_0 := (HB.out.cell (World.block_lt_of_cell? w _ hx246_0)).trans hx246_0
            replace hx246_1 := (HB.out.cell (World.block_lt_of_cell? w _ hx246_1)).trans hx246_1
            have HR246_1 := Aside0.mk hi246_1
            have HC246_1 := Aside0.mk hl246_1
            clear hi246_1 hl246_1
            replace p246 := eq_true p246
            replace q246 := eq_true q246
            have ea_ := Option.some.inj (hx243_1.symm.trans hx246_1)
            injection ea_ with ea_ en_ ec_
            subst ea_
            subst ec_
            clear en_
            have p247 : 0 ≤ (x8_2 : Int) := od_
            have q247 : x8_2 < (((rd_T49 l1 x7_1).f1).length : Int) := od_
            obtain ⟨ad247, e247, hx247_0, hx247_1, hx247_2⟩ := at_T51 HR246_1.out x8_2 p247 q247
            cases e247
            replace hx247_0 := (HB.out.cell (World.block_lt_of_cell? w _ hx247_0)).trans hx247_0
            replace hx247_1 := (HB.out.cell (World.block_lt_of_cell? w _ hx247_1)).trans hx247_1
            replace hx247_2 := (HB.out.cell (World.block_lt_of_cell? w _ hx247_2)).trans hx247_2
            replace p247 := eq_true p247
            replace q247 := eq_true q247
            go_wp2_with (first | ((with_reducible refine gate_dst (N := 9) rfl ?_); refine box_event ?hg (N := 9) ?hd (cs := #[.int .i64 0, .int .i64 0, .int .i64 0]) (t := 51) ?hr ?_; (case hd => rfl); (case hg => rfl); (case hr => first | (go_simp; done) | (go_simp; rfl)); intro gb248 hg w45 hbox hb; have n0_ := Aside0.mk (Kd.R_below (rr_ HO_5) hb); have n1_ := Aside0.mk (Kd.R_below (rr_ HO_6) hb); have n2_ := Aside0.mk (blk_below (g := gb242) (o := .cells #[.slice A0_0 l0_0.length c0_0, .slice A0_1 l0_1.length c0_1] 25 (0, 0)) (kk_ BK242) hb); have n3_ := Aside0.mk (below_step (bs_ HB GE242.out) hb); have n4_ := Aside0.mk (hbox); have n5_ := Aside0.mk ((by rw [hg]; exact (below_size (bs_ HB GE242.out)) : w.heap.size ≤ gb248)); have n6_ := Aside0.mk ((by rw [hg]; exact (below_size (bs_ HB GE242.out)) : w.heap.size ≤ gb248)); have n7_ := Aside0.mk ((by rw [hg]; exact Nat.ne_of_lt (blk_lt (g := gb242) (o := .cells #[.slice A0_0 l0_0.length c0_0, .slice A0_1 l0_1.length c0_1] 25 (0, 0)) (kk_ BK242)) : gb242 ≠ gb248)); have n8_ := Aside0.mk ((by rw [hg]; exact Nat.ne_of_gt (blk_lt (g := gb242) (o := .cells #[.slice A0_0 l0_0.length c0_0, .slice A0_1 l0_1.length c0_1] 25 (0, 0)) (kk_ BK242)) : gb248 ≠ gb242)); clear HO_5; clear HO_6; clear BK242; clear HB; have HO_5 := n0_; have HO_6 := n1_; have BK242 := n2_; have HB := n3_; have BK248 := n4_; have GW248 := n5_; have GE248 := n6_; have NB242_248 := n7_; have NB248_242 := n8_; clear n0_ n1_ n2_ n3_ n4_ n5_ n6_ n7_ n8_; clear hb hbox hg; have hnb46 := NB248_242.out; have hnc46 := NB242_248.out; have hcz47_0 : w45.cell? ⟨gb248, 0, none⟩ = some (.int .i64 0) := (blk_cell BK248.out 0).trans rfl; have hcz47_1 : w45.cell? ⟨gb248, 1, none⟩ = some (.int .i64 0) := (blk_cell BK248.out 1).trans rfl; have hcz47_2 : w45.cell? ⟨gb248, 2, none⟩ = some (.int .i64 0) := (blk_cell BK248.out 2).trans rfl; have hfz47_0 := blk_frozen BK248.out 0; have hfz47_1 := blk_frozen BK248.out 1; have hfz47_2 := blk_frozen BK248.out 2; have hcz48_0 : w45.cell? ⟨gb242, 0, none⟩ = some (.slice A0_0 l0_0.length c0_0) := (blk_cell BK242.out 0).trans rfl; have hcz48_1 : w45.cell? ⟨gb242, 1, none⟩ = some (.slice A0_1 l0_1.length c0_1) := (blk_cell BK242.out 1).trans rfl; have hfz48_0 := blk_frozen BK242.out 0; have hfz48_1 := blk_frozen BK242.out 1) | ((with_reducible refine gate_callee (f := 41) rfl ?_); refine gl_ (some 41) Try.func41 #[.agg #[.slice A0_0 l0_0.length c0_0, .slice A0_1 l0_1.length c0_1], .agg #[.int .i64 ((rd_T51 ((rd_T49 l1 x7_1).f1) x8_2).f0), .int .i64 ((rd_T51 ((rd_T49 l1 x7_1).f1) x8_2).f1), .int .i64 ((rd_T51 ((rd_T49 l1 x7_1).f1) x8_2).f2)]] ?_; (with_reducible refine (cohousingref26_move.calls k2 _ _ l0_0 _ _ l0_1 ((rd_T51 ((rd_T49 l1 x7_1).f1) x8_2).f0) ((rd_T51 ((rd_T49 l1 x7_1).f1) x8_2).f1) ((rd_T51 ((rd_T49 l1 x7_1).f1) x8_2).f2) false _ ?side1 ?side2 ?side3 ?side4 A11.out).mono ?_); (case side1 => exact Kd.C_below HR0_0.out (by repeat (first | (with_reducible first | exact HB.out | apply below_alloc | apply pw_below_drewN | apply below_drew1 | refine below_set ?_ GE242.out | refine below_set ?_ GE248.out) | exact HB.out))); (case side2 => exact HC0_0.out); (case side3 => exact Kd.C_below HR0_1.out (by repeat (first | (with_reducible first | exact HB.out | apply below_alloc | apply pw_below_drewN | apply below_drew1 | refine below_set ?_ GE242.out | refine below_set ?_ GE248.out) | exact HB.out))); (case side4 => exact HC0_1.out); rintro e w49 ⟨rfl, hb⟩; refine ⟨_, rfl, ?_⟩; have n0_ := Aside0.mk (Kd.R_below (by (with_reducible repeat (first | apply Kd.R_alloc | apply Kd.R_drewN | apply Kd.R_drew)); exact (Kd.R_mono (Kd.R_far (p := ⟨gb248, 2, none⟩) (Kd.R_far (p := ⟨gb248, 1, none⟩) (Kd.R_far (p := ⟨gb248, 0, none⟩) (Kd.R_types HO_5.out BK248.out (by decide)) (fun _ hk => hk.2) (.int .i64 ((rd_T51 ((rd_T49 l1 x7_1).f1) x8_2).f0))) (fun _ hk => hk.2) (.int .i64 ((rd_T51 ((rd_T49 l1 x7_1).f1) x8_2).f1))) (fun _ hk => hk.2) (.int .i64 ((rd_T51 ((rd_T49 l1 x7_1).f1) x8_2).f2))) (fun _ h_ => h_.1))) hb); have n1_ := Aside0.mk (Kd.R_below (by (with_reducible repeat (first | apply Kd.R_alloc | apply Kd.R_drewN | apply Kd.R_drew)); exact (Kd.R_mono (Kd.R_far (p := ⟨gb248, 2, none⟩) (Kd.R_far (p := ⟨gb248, 1, none⟩) (Kd.R_far (p := ⟨gb248, 0, none⟩) (Kd.R_types HO_6.out BK248.out (by decide)) (fun _ hk => hk.2) (.int .i64 ((rd_T51 ((rd_T49 l1 x7_1).f1) x8_2).f0))) (fun _ hk => hk.2) (.int .i64 ((rd_T51 ((rd_T49 l1 x7_1).f1) x8_2).f1))) (fun _ hk => hk.2) (.int .i64 ((rd_T51 ((rd_T49 l1 x7_1).f1) x8_2).f2))) (fun _ h_ => h_.1))) hb); have n2_ := Aside0.mk (blk_below (g := gb242) (o := .cells #[.slice A0_0 l0_0.length c0_0, .slice A0_1 l0_1.length c0_1] 25 (0, 0)) (by (with_reducible repeat (first | refine blk_drewN ?_ _ | refine blk_drew ?_ | refine blk_alloc ?_ _)); refine blk_far ?_ NB242_248.out _; (with_reducible repeat (first | refine blk_drewN ?_ _ | refine blk_drew ?_ | refine blk_alloc ?_ _)); refine blk_far ?_ NB242_248.out _; (with_reducible repeat (first | refine blk_drewN ?_ _ | refine blk_drew ?_ | refine blk_alloc ?_ _)); refine blk_far ?_ NB242_248.out _; (with_reducible repeat (first | refine blk_drewN ?_ _ | refine blk_drew ?_ | refine blk_alloc ?_ _)); exact BK242.out) hb); have n3_ := Aside0.mk (blk_below (g := gb248) (o := .cells #[.int .i64 ((rd_T51 ((rd_T49 l1 x7_1).f1) x8_2).f0), .int .i64 ((rd_T51 ((rd_T49 l1 x7_1).f1) x8_2).f1), .int .i64 ((rd_T51 ((rd_T49 l1 x7_1).f1) x8_2).f2)] 51 (0, 0)) (by (with_reducible repeat (first | refine blk_drewN ?_ _ | refine blk_drew ?_ | refine blk_alloc ?_ _)); refine blk_put (cs := #[.int .i64 ((rd_T51 ((rd_T49 l1 x7_1).f1) x8_2).f0), .int .i64 ((rd_T51 ((rd_T49 l1 x7_1).f1) x8_2).f1), .int .i64 0]) ?_ 2 _ rfl; (with_reducible repeat (first | refine blk_drewN ?_ _ | refine blk_drew ?_ | refine blk_alloc ?_ _)); refine blk_put (cs := #[.int .i64 ((rd_T51 ((rd_T49 l1 x7_1).f1) x8_2).f0), .int .i64 0, .int .i64 0]) ?_ 1 _ rfl; (with_reducible repeat (first | refine blk_drewN ?_ _ | refine blk_drew ?_ | refine blk_alloc ?_ _)); refine blk_put (cs := #[.int .i64 0, .int .i64 0, .int .i64 0]) ?_ 0 _ rfl; (with_reducible repeat (first | refine blk_drewN ?_ _ | refine blk_drew ?_ | refine blk_alloc ?_ _)); exact BK248.out) hb); have n4_ := Aside0.mk (below_step (by repeat (first | (with_reducible first | exact HB.out | apply below_alloc | apply pw_below_drewN | apply below_drew1 | refine below_set ?_ GE242.out | refine below_set ?_ GE248.out) | exact HB.out)) hb); clear HO_5; clear HO_6; clear BK242; clear BK248; clear HB; have HO_5 := n0_; have HO_6 := n1_; have BK242 := n2_; have BK248 := n3_; have HB := n4_; clear n0_ n1_ n2_ n3_ n4_; (try clear hb); (try clear hb2); (try clear hk); (try clear hi)))
            go_ret
            exact ⟨ew_, by repeat (first | (with_reducible first | exact HB.out | apply below_alloc | apply pw_below_drewN | apply below_drew1 | refine below_set ?_ GE242.out | refine below_set ?_ GE248.out) | exact HB.out)⟩
          ·rw [if_neg c10] at H
           exact absurd H (by simp)
         ·rw [if_neg c9] at H
          have c9b0 : decide (x8_2 < (((rd_T49 l1 x7_1).f1).length : Int)) = false := decide_eq_false c9
          clear c9
          replace H := Option.bind_eq_some_iff.mp H
          obtain ⟨t245, A500, H⟩ := H
          replace H : (if t245 = true then (cohousingref26_Rings.l0 k2 l1 x5_2 x6_2 (wrap64 (x7_1 + 1)) l0_0 l0_1) else (some false)) = some r := H
          have A50 := Aside0.mk A500
          clear A500
          by_cases c51 : t245 = true
          ·subst c51
           have H1 : (cohousingref26_Rings.l0 k2 l1 x5_2 x6_2 (wrap64 (x7_1 + 1)) l0_0 l0_1) = some r := by rw [if_pos rfl] at H; exact H
           clear H
           have H := H1
           clear H1
           have H' := Aside0.mk H
           clear H
           have p243 : 0 ≤ (x7_1 : Int) := od_
           have q243 : x7_1 < (l1.length : Int) := od_
           obtain ⟨ad243, A243_1, c243_1, e243, hx243_0, hx243_1, hl243_1, hi243_1⟩ := at_T49 HR1.out x7_1 p243 q243
           cases e243
           replace hx243_0 := (HB.out.cell (World.block_lt_of_cell? w _ hx243_0)).trans hx243_0
           replace hx243_1 := (HB.out.cell (World.block_lt_of_cell? w _ hx243_1)).trans hx243_1
           have HR243_1 := Aside0.mk hi243_1
           have HC243_1 := Aside0.mk hl243_1
           clear hi243_1 hl243_1
           replace p243 := eq_true p243
           replace q243 := eq_true q243
           try go_wp2
           have n0_ := Aside0.mk (Kd.R_drew HO_5.out)
           have n1_ := Aside0.mk (Kd.R_drew HO_6.out)
           have n2_ := Aside0.mk (blk_drew BK242.out)
           have n3_ := Aside0.mk (below_drew1 HB.out)
           clear HO_5
           clear HO_6
           clear BK242
           clear HB
           have HO_5 := n0_
           have HO_6 := n1_
           have BK242 := n2_
           have HB := n3_
           clear n0_ n1_ n2_ n3_
           have p244 : 0 ≤ (x7_1 : Int) := od_
           have q244 : x7_1 < (l1.length : Int) := od_
           obtain ⟨ad244, A244_1, c244_1, e244, hx244_0, hx244_1, hl244_1, hi244_1⟩ := at_T49 HR1.out x7_1 p244 q244
           have hw244_1 := hx244_1
           have hw244_0 := hx244_0
           obtain rfl : ad243 = ad244 := (by injection e244)
           replace hx244_0 := (HB.out.cell (World.block_lt_of_cell? w _ hx244_0)).trans hx244_0
           replace hx244_1 := (HB.out.cell (World.block_lt_of_cell? w _ hx244_1)).trans hx244_1
           have HR244_1 := Aside0.mk hi244_1
           have HC244_1 := Aside0.mk hl244_1
           clear hi244_1 hl244_1
           replace p244 := eq_true p244
           replace q244 := eq_true q244
           refine start_ (n := 7) (S := fun w' => w'.cell? ⟨gb242, 0, none⟩ = some (.slice A0_0 l0_0.length c0_0) ∧ w'.cell? ⟨gb242, 1, none⟩ = some (.slice A0_1 l0_1.length c0_1) ∧ w'.cell? (ad243.add ((x7_1).toNat * 2)) = some (.bool ((rd_T49 l1 x7_1).f0)) ∧ w'.cell? ⟨(ad243.add ((x7_1).toNat * 2)).block, (ad243.add ((x7_1).toNat * 2)).off + 1, none⟩ = some (.slice A244_1 ((rd_T49 l1 x7_1).f1).length c244_1)) (ds := []) #[n_, n_, n_, n_, n_, n_, n_] (by kernel_rfl) rfl rfl ⟨(blk_cell BK242.out 0).trans rfl, (blk_cell BK242.out 1).trans rfl, ((HB.out.cell (World.block_lt_of_cell? w _ hw244_0)).trans hw244_0), ((HB.out.cell (World.block_lt_of_cell? w _ hw244_1)).trans hw244_1)⟩ (fun hHeld => ?_)
           generalize wr.drew = w52 at HO_5 HO_6 BK242 HB HR244_1 hx244_0 hx244_1 hHeld ⊢
           refine pv_ 1 69 (w_ 7 2) rfl ?_
           refine pv_ 2 70 (w_ 7 6) rfl ?_
           refine pv_ 3 71 (w_ 7 14) rfl ?_
           refine tb_ 0 68 (w_ 7 15) rfl hHeld (by rintro w' ⟨s0, s1, s2, s3⟩; go_simp; with_reducible rfl) ?_
           refine tb_ 4 72 (w_ 7 31) rfl hHeld (by rintro w' ⟨s0, s1, s2, s3⟩; go_simp; with_reducible rfl) ?_
           refine one_ (i := 5) (N := some 73) (w_ 7 63) rfl rfl (by kernel_rfl) (by decide) (fun K hK => ?_)
           refine goes_ Try.func47 (by kernel_rfl) rfl #[.agg #[.slice A0_0 l0_0.length c0_0, .slice A0_1 l0_1.length c0_1], .agg #[.bool ((rd_T49 l1 x7_1).f0), .slice A244_1 ((rd_T49 l1 x7_1).f1).length c244_1]] (by rfl) rfl rfl (by (try simp only [List.map_toArray, List.map_cons, List.map_nil]); first | done | rfl | (simp only [List.length_drop, List.length_take]; rfl)) ?_
           with_reducible refine (cohousingref26_shape.calls k2 _ _ l0_0 _ _ l0_1 ((rd_T49 l1 x7_1).f0) _ _ ((rd_T49 l1 x7_1).f1) true _ ?side1 ?side2 ?side3 ?side4 ?side5 ?side6 A50.out).mono ?_
           (case side1 => exact cc_ ((Kd.C_below HR0_0.out HB.out)))
           (case side2 => exact HC0_0.out)
           (case side3 => exact cc_ ((Kd.C_below HR0_1.out HB.out)))
           (case side4 => exact HC0_1.out)
           (case side5 => exact cc_ ((Kd.C_below HR244_1.out HB.out)))
           (case side6 => exact HC244_1.out)
           rintro e w53 ⟨rfl, hb⟩
           refine ⟨_, rfl, ?_⟩
           have n0_ := Aside0.mk (Kd.R_below (rr_ HO_5) hb)
           have n1_ := Aside0.mk (Kd.R_below (rr_ HO_6) hb)
           have n2_ := Aside0.mk (blk_below (g := gb242) (o := .cells #[.slice A0_0 l0_0.length c0_0, .slice A0_1 l0_1.length c0_1] 25 (0, 0)) (kk_ BK242) hb)
           have n3_ := Aside0.mk (below_step (bs_ HB GE242.out) hb)
           clear HO_5
           clear HO_6
           clear BK242
           clear HB
           have HO_5 := n0_
           have HO_6 := n1_
           have BK242 := n2_
           have HB := n3_
           clear n0_ n1_ n2_ n3_
           (try clear hb)
           (try clear hb2)
           (try clear hk)
           (try clear hi)
           refine hK.out _ _ ⟨(blk_cell BK242.out 0).trans rfl, (blk_cell BK242.out 1).trans rfl, ((HB.out.cell (World.block_lt_of_cell? w _ hw244_0)).trans hw244_0), ((HB.out.cell (World.block_lt_of_cell? w _ hw244_1)).trans hw244_1)⟩ (fun hHeld => ?_)
           clear hK K
           refine norm_ (a' := ?_) ?_ ?_
           rotate_left
           ·show Act.put _ (some 73) _ = _
            simp only [Act.put, sI_, s0_, sS_, i64_w, i32_w]
            rfl
           refine pv_ 6 11 (w_ 7 127) rfl ?_
           refine done_ (by kernel_rfl) ?_
           try go_wp2
           go_roundg k2
           case measure => have := HK1.out; have := HK2.out; omega
           case rel => exact ⟨(x5_2), (x6_2), (wrap64 (x7_1 + 1)), sd_, H', ⟨by have := HK1.out; have := HK2.out; omega⟩, ⟨by (with_reducible repeat (first | apply Kd.R_alloc | apply Kd.R_drewN | apply Kd.R_drew)); exact HO_5.out⟩, ⟨by (with_reducible repeat (first | apply Kd.R_alloc | apply Kd.R_drewN | apply Kd.R_drew)); exact HO_6.out⟩, ⟨by (with_reducible repeat (first | refine blk_drewN ?_ _ | refine blk_drew ?_ | refine blk_alloc ?_ _)); exact BK242.out⟩, ⟨by repeat (first | (with_reducible first | exact HB.out | apply below_alloc | apply pw_below_drewN | apply below_drew1 | refine below_set ?_ GE242.out) | exact HB.out)⟩⟩
          ·replace c51 := Bool.eq_false_iff.mpr c51
           subst c51
           have H1 : (some false) = some r := by rw [if_neg (show ¬ (false = true) by decide)] at H; exact H
           clear H
           have H := H1
           clear H1
           obtain rfl := Option.some.inj H
           have p243 : 0 ≤ (x7_1 : Int) := od_
           have q243 : x7_1 < (l1.length : Int) := od_
           obtain ⟨ad243, A243_1, c243_1, e243, hx243_0, hx243_1, hl243_1, hi243_1⟩ := at_T49 HR1.out x7_1 p243 q243
           cases e243
           replace hx243_0 := (HB.out.cell (World.block_lt_of_cell? w _ hx243_0)).trans hx243_0
           replace hx243_1 := (HB.out.cell (World.block_lt_of_cell? w _ hx243_1)).trans hx243_1
           have HR243_1 := Aside0.mk hi243_1
           have HC243_1 := Aside0.mk hl243_1
           clear hi243_1 hl243_1
           replace p243 := eq_true p243
           replace q243 := eq_true q243
           try go_wp2
           have n0_ := Aside0.mk (Kd.R_drew HO_5.out)
           have n1_ := Aside0.mk (Kd.R_drew HO_6.out)
           have n2_ := Aside0.mk (blk_drew BK242.out)
           have n3_ := Aside0.mk (below_drew1 HB.out)
           clear HO_5
           clear HO_6
           clear BK242
           clear HB
           have HO_5 := n0_
           have HO_6 := n1_
           have BK242 := n2_
           have HB := n3_
           clear n0_ n1_ n2_ n3_
           have p244 : 0 ≤ (x7_1 : Int) := od_
           have q244 : x7_1 < (l1.length : Int) := od_
           obtain ⟨ad244, A244_1, c244_1, e244, hx244_0, hx244_1, hl244_1, hi244_1⟩ := at_T49 HR1.out x7_1 p244 q244
           have hw244_1 := hx244_1
           have hw244_0 := hx244_0
           obtain rfl : ad243 = ad244 := (by injection e244)
           replace hx244_0 := (HB.out.cell (World.block_lt_of_cell? w _ hx244_0)).trans hx244_0
           replace hx244_1 := (HB.out.cell (World.block_lt_of_cell? w _ hx244_1)).trans hx244_1
           have HR244_1 := Aside0.mk hi244_1
           have HC244_1 := Aside0.mk hl244_1
           clear hi244_1 hl244_1
           replace p244 := eq_true p244
           replace q244 := eq_true q244
           refine start_ (n := 7) (S := fun w' => w'.cell? ⟨gb242, 0, none⟩ = some (.slice A0_0 l0_0.length c0_0) ∧ w'.cell? ⟨gb242, 1, none⟩ = some (.slice A0_1 l0_1.length c0_1) ∧ w'.cell? (ad243.add ((x7_1).toNat * 2)) = some (.bool ((rd_T49 l1 x7_1).f0)) ∧ w'.cell? ⟨(ad243.add ((x7_1).toNat * 2)).block, (ad243.add ((x7_1).toNat * 2)).off + 1, none⟩ = some (.slice A244_1 ((rd_T49 l1 x7_1).f1).length c244_1)) (ds := []) #[n_, n_, n_, n_, n_, n_, n_] (by kernel_rfl) rfl rfl ⟨(blk_cell BK242.out 0).trans rfl, (blk_cell BK242.out 1).trans rfl, ((HB.out.cell (World.block_lt_of_cell? w _ hw244_0)).trans hw244_0), ((HB.out.cell (World.block_lt_of_cell? w _ hw244_1)).trans hw244_1)⟩ (fun hHeld => ?_)
           generalize wr.drew = w54 at HO_5 HO_6 BK242 HB HR244_1 hx244_0 hx244_1 hHeld ⊢
           refine pv_ 1 69 (w_ 7 2) rfl ?_
           refine pv_ 2 70 (w_ 7 6) rfl ?_
           refine pv_ 3 71 (w_ 7 14) rfl ?_
           refine tb_ 0 68 (w_ 7 15) rfl hHeld (by rintro w' ⟨s0, s1, s2, s3⟩; go_simp; with_reducible rfl) ?_
           refine tb_ 4 72 (w_ 7 31) rfl hHeld (by rintro w' ⟨s0, s1, s2, s3⟩; go_simp; with_reducible rfl) ?_
           refine one_ (i := 5) (N := some 73) (w_ 7 63) rfl rfl (by kernel_rfl) (by decide) (fun K hK => ?_)
           refine goes_ Try.func47 (by kernel_rfl) rfl #[.agg #[.slice A0_0 l0_0.length c0_0, .slice A0_1 l0_1.length c0_1], .agg #[.bool ((rd_T49 l1 x7_1).f0), .slice A244_1 ((rd_T49 l1 x7_1).f1).length c244_1]] (by rfl) rfl rfl (by (try simp only [List.map_toArray, List.map_cons, List.map_nil]); first | done | rfl | (simp only [List.length_drop, List.length_take]; rfl)) ?_
           with_reducible refine (cohousingref26_shape.calls k2 _ _ l0_0 _ _ l0_1 ((rd_T49 l1 x7_1).f0) _ _ ((rd_T49 l1 x7_1).f1) false _ ?side1 ?side2 ?side3 ?side4 ?side5 ?side6 A50.out).mono ?_
           (case side1 => exact cc_ ((Kd.C_below HR0_0.out HB.out)))
           (case side2 => exact HC0_0.out)
           (case side3 => exact cc_ ((Kd.C_below HR0_1.out HB.out)))
           (case side4 => exact HC0_1.out)
           (case side5 => exact cc_ ((Kd.C_below HR244_1.out HB.out)))
           (case side6 => exact HC244_1.out)
           rintro e w55 ⟨rfl, hb⟩
           refine ⟨_, rfl, ?_⟩
           have n0_ := Aside0.mk (Kd.R_below (rr_ HO_5) hb)
           have n1_ := Aside0.mk (Kd.R_below (rr_ HO_6) hb)
           have n2_ := Aside0.mk (blk_below (g := gb242) (o := .cells #[.slice A0_0 l0_0.length c0_0, .slice A0_1 l0_1.length c0_1] 25 (0, 0)) (kk_ BK242) hb)
           have n3_ := Aside0.mk (below_step (bs_ HB GE242.out) hb)
           clear HO_5
           clear HO_6
           clear BK242
           clear HB
           have HO_5 := n0_
           have HO_6 := n1_
           have BK242 := n2_
           have HB := n3_
           clear n0_ n1_ n2_ n3_
           (try clear hb)
           (try clear hb2)
           (try clear hk)
           (try clear hi)
           refine hK.out _ _ ⟨(blk_cell BK242.out 0).trans rfl, (blk_cell BK242.out 1).trans rfl, ((HB.out.cell (World.block_lt_of_cell? w _ hw244_0)).trans hw244_0), ((HB.out.cell (World.block_lt_of_cell? w _ hw244_1)).trans hw244_1)⟩ (fun hHeld => ?_)
           clear hK K
           refine norm_ (a' := ?_) ?_ ?_
           rotate_left
           ·show Act.put _ (some 73) _ = _
            simp only [Act.put, sI_, s0_, sS_, i64_w, i32_w]
            rfl
           refine pv_ 6 11 (w_ 7 127) rfl ?_
           refine done_ (by kernel_rfl) ?_
           try go_wp2
           go_ret
           exact ⟨ew_, by repeat (first | (with_reducible first | exact HB.out | apply below_alloc | apply pw_below_drewN | apply below_drew1 | refine below_set ?_ GE242.out) | exact HB.out)⟩
        ·rw [if_neg c8] at H
         exact absurd H (by simp)
       ·rw [if_neg c7] at H
        exact absurd H (by simp)
    ·rw [if_neg c6] at H
     have c6b0 : decide (x7_1 < (l1.length : Int)) = false := decide_eq_false c6
     clear c6
     obtain rfl := Option.some.inj H
     go_wp2
     go_ret
     exact ⟨ew_, by repeat (first | (with_reducible first | exact HB.out | apply below_alloc | apply pw_below_drewN | apply below_drew1 | refine below_set ?_ GE242.out) | exact HB.out)⟩
end
section
def cohousingref26_Replies.l0 : Nat → List (S55) → Int → Option (Bool)
 | 0, _, _ => none
 | k + 1, x0, x3 => if x3 < (x0.length : Int) then (if 0 ≤ x3 then (if ((rd_T55 x0 x3).f0) < 1 then (some false) else (if ((rd_T55 x0 x3).f0) > 3 then (some false) else (if ((rd_T55 x0 x3).f1) < 1 then (some false) else (if ((rd_T55 x0 x3).f1) > 64 then (some false) else (if ((rd_T55 x0 x3).f2) < 0 then (some false) else (if ((rd_T55 x0 x3).f2) > 36524 then (some false) else (if x3 > 0 then (if 0 ≤ (wrap64 (x3 - 1)) then (if (wrap64 (x3 - 1)) < (x0.length : Int) then (if ((rd_T55 x0 x3).f2) < ((rd_T55 x0 (wrap64 (x3 - 1))).f2) then (some false) else (cohousingref26_Replies.l0 k x0 (wrap64 (x3 + 1)))) else (none)) else (none)) else (cohousingref26_Replies.l0 k x0 (wrap64 (x3 + 1)))))))))) else (none)) else (some true)
def cohousingref26_Replies.f (k : Nat) (l0 : List (S55)) : Option (Bool) := if (l0.length : Int) > 1000 then (some false) else (cohousingref26_Replies.l0 k l0 0)
theorem cohousingref26_Replies.calls (k : Nat) (A0 : Option Addr) (c0 : Nat) (l0 : List (S55)) (r : Bool) (w : World) (hr0 : Kd.C k55 w A0 l0.length l0) (hc0 : l0.length ≤ c0) (h : cohousingref26_Replies.f k l0 = some r) :
  Calls Try.prog 36 #[.slice A0 l0.length c0] w fun e w' => e = .returned (.bool r) ∧ Below w.heap.size w w' := by
 have hu55 := Try.underlying55
 have HR0 := Aside0.mk hr0
 have HC0 := Aside0.mk hc0
 clear hr0 hc0
 have HB := Aside0.mk (Below.refl w.heap.size w)
 have H : (if (l0.length : Int) > 1000 then (some false) else (cohousingref26_Replies.l0 k l0 0)) = some r := h
 clear h
 by_cases c2 : (l0.length : Int) > 1000
 ·rw [if_pos c2] at H
  have c2b0 : decide (1000 < (l0.length : Int)) = true := decide_eq_true c2
  have c2b1 : decide (1000 < l0.length) = true := decide_eq_true (by omega)
  clear c2
  obtain rfl := Option.some.inj H
  go_enter Try.func36, Try.ntmps36
  go_wp2
  repeat (go_quiet (fail); try go_wp2)
  go_ret
  exact ⟨ew_, by repeat (first | (with_reducible first | exact HB.out | apply below_alloc | apply pw_below_drewN | apply below_drew1) | exact HB.out)⟩
 ·rw [if_neg c2] at H
  have c2b0 : decide (1000 < (l0.length : Int)) = false := decide_eq_false c2
  have c2b1 : decide (1000 < l0.length) = false := decide_eq_false (by omega)
  clear c2
  have H' := Aside0.mk H
  clear H
  go_enter Try.func36, Try.ntmps36
  go_wp2
  repeat (go_quiet (fail); try go_wp2)
  go_loopg [3] k (fun kq v3 w' => ∃ (x3_1 : Int), v3 = .int .i64 x3_1 ∧ Aside0 (cohousingref26_Replies.l0 kq l0 x3_1 = some r) ∧ Aside0 (kq ≤ k) ∧ Aside0 (Below w.heap.size w w'))
  case atStart => exact ⟨(0), sd_, H', ⟨Nat.le_refl _⟩, ⟨by repeat (first | (with_reducible first | exact HB.out | apply below_alloc | apply pw_below_drewN | apply below_drew1) | exact HB.out)⟩⟩
  case round =>
   clear H'
   try clear c2
   try clear c2b0
   try clear c2b1
   try clear p2
   obtain ⟨x3_1, rfl, HA, HK1, HB⟩ := hrel
   cases gk with
   | zero => exact absurd HA.out (by simp [cohousingref26_Replies.l0])
   | succ k1 =>
    have H := HA.out
    clear HA
    simp only [cohousingref26_Replies.l0] at H
    by_cases c3 : x3_1 < (l0.length : Int)
    ·rw [if_pos c3] at H
     have c3b0 : decide (x3_1 < (l0.length : Int)) = true := decide_eq_true c3
     clear c3
     by_cases c4 : 0 ≤ x3_1
     ·rw [if_pos c4] at H
      have c4b0 : decide (0 ≤ x3_1) = true := decide_eq_true c4
      clear c4
      by_cases c5 : ((rd_T55 l0 x3_1).f0) < 1
      ·rw [if_pos c5] at H
       have c5b0 : decide (((rd_T55 l0 x3_1).f0) < 1) = true := decide_eq_true c5
       clear c5
       obtain rfl := Option.some.inj H
       have p258 : 0 ≤ (x3_1 : Int) := od_
       have q258 : x3_1 < (l0.length : Int) := od_
       obtain ⟨ad258, e258, hx258_0, hx258_1, hx258_2⟩ := at_T55 HR0.out x3_1 p258 q258
       cases e258
       replace hx258_0 := (HB.out.cell (World.block_lt_of_cell? w _ hx258_0)).trans hx258_0
       replace hx258_1 := (HB.out.cell (World.block_lt_of_cell? w _ hx258_1)).trans hx258_1
       replace hx258_2 := (HB.out.cell (World.block_lt_of_cell? w _ hx258_2)).trans hx258_2
       replace p258 := eq_true p258
       replace q258 := eq_true q258
       go_wp2_with (first | ((with_reducible refine gate_dst (N := 4) rfl ?_); refine box_event ?hg (N := 4) ?hd (cs := #[.int .i64 0, .int .i64 0, .int .i64 0]) (t := 55) ?hr ?_; (case hd => rfl); (case hg => rfl); (case hr => first | (go_simp; done) | (go_simp; rfl)); intro gb259 hg w6 hbox hb; have n0_ := Aside0.mk (below_step (bb_ HB) hb); have n1_ := Aside0.mk (hbox); have n2_ := Aside0.mk ((by rw [hg]; exact (below_size (bb_ HB)) : w.heap.size ≤ gb259)); have n3_ := Aside0.mk ((by rw [hg]; exact (below_size (bb_ HB)) : w.heap.size ≤ gb259)); clear HB; have HB := n0_; have BK259 := n1_; have GW259 := n2_; have GE259 := n3_; clear n0_ n1_ n2_ n3_; clear hb hbox hg; have hcz7_0 : w6.cell? ⟨gb259, 0, none⟩ = some (.int .i64 0) := (blk_cell BK259.out 0).trans rfl; have hcz7_1 : w6.cell? ⟨gb259, 1, none⟩ = some (.int .i64 0) := (blk_cell BK259.out 1).trans rfl; have hcz7_2 : w6.cell? ⟨gb259, 2, none⟩ = some (.int .i64 0) := (blk_cell BK259.out 2).trans rfl; have hfz7_0 := blk_frozen BK259.out 0; have hfz7_1 := blk_frozen BK259.out 1; have hfz7_2 := blk_frozen BK259.out 2))
       repeat (go_quiet (first | ((with_reducible refine gate_dst (N := 4) rfl ?_); refine box_event ?hg (N := 4) ?hd (cs := #[.int .i64 0, .int .i64 0, .int .i64 0]) (t := 55) ?hr ?_; (case hd => rfl); (case hg => rfl); (case hr => first | (go_simp; done) | (go_simp; rfl)); intro gb259 hg w6 hbox hb; have n0_ := Aside0.mk (below_step (bb_ HB) hb); have n1_ := Aside0.mk (hbox); have n2_ := Aside0.mk ((by rw [hg]; exact (below_size (bb_ HB)) : w.heap.size ≤ gb259)); have n3_ := Aside0.mk ((by rw [hg]; exact (below_size (bb_ HB)) : w.heap.size ≤ gb259)); clear HB; have HB := n0_; have BK259 := n1_; have GW259 := n2_; have GE259 := n3_; clear n0_ n1_ n2_ n3_; clear hb hbox hg; have hcz7_0 : w6.cell? ⟨gb259, 0, none⟩ = some (.int .i64 0) := (blk_cell BK259.out 0).trans rfl; have hcz7_1 : w6.cell? ⟨gb259, 1, none⟩ = some (.int .i64 0) := (blk_cell BK259.out 1).trans rfl; have hcz7_2 : w6.cell? ⟨gb259, 2, none⟩ = some (.int .i64 0) := (blk_cell BK259.out 2).trans rfl; have hfz7_0 := blk_frozen BK259.out 0; have hfz7_1 := blk_frozen BK259.out 1; have hfz7_2 := blk_frozen BK259.out 2)); try go_wp2_with (first | ((with_reducible refine gate_dst (N := 4) rfl ?_); refine box_event ?hg (N := 4) ?hd (cs := #[.int .i64 0, .int .i64 0, .int .i64 0]) (t := 55) ?hr ?_; (case hd => rfl); (case hg => rfl); (case hr => first | (go_simp; done) | (go_simp; rfl)); intro gb259 hg w6 hbox hb; have n0_ := Aside0.mk (below_step (bb_ HB) hb); have n1_ := Aside0.mk (hbox); have n2_ := Aside0.mk ((by rw [hg]; exact (below_size (bb_ HB)) : w.heap.size ≤ gb259)); have n3_ := Aside0.mk ((by rw [hg]; exact (below_size (bb_ HB)) : w.heap.size ≤ gb259)); clear HB; have HB := n0_; have BK259 := n1_; have GW259 := n2_; have GE259 := n3_; clear n0_ n1_ n2_ n3_; clear hb hbox hg; have hcz7_0 : w6.cell? ⟨gb259, 0, none⟩ = some (.int .i64 0) := (blk_cell BK259.out 0).trans rfl; have hcz7_1 : w6.cell? ⟨gb259, 1, none⟩ = some (.int .i64 0) := (blk_cell BK259.out 1).trans rfl; have hcz7_2 : w6.cell? ⟨gb259, 2, none⟩ = some (.int .i64 0) := (blk_cell BK259.out 2).trans rfl; have hfz7_0 := blk_frozen BK259.out 0; have hfz7_1 := blk_frozen BK259.out 1; have hfz7_2 := blk_frozen BK259.out 2)))
       go_ret
       exact ⟨ew_, by repeat (first | (with_reducible first | exact HB.out | apply below_alloc | apply pw_below_drewN | apply below_drew1 | refine below_set ?_ GE259.out) | exact HB.out)⟩
      ·rw [if_neg c5] at H
       have c5b0 : decide (((rd_T55 l0 x3_1).f0) < 1) = false := decide_eq_false c5
       clear c5
       by_cases c8 : ((rd_T55 l0 x3_1).f0) > 3
       ·rw [if_pos c8] at H
        have c8b0 : decide (3 < ((rd_T55 l0 x3_1).f0)) = true := decide_eq_true c8
        clear c8
        obtain rfl := Option.some.inj H
        have p258 : 0 ≤ (x3_1 : Int) := od_
        have q258 : x3_1 < (l0.length : Int) := od_
        obtain ⟨ad258, e258, hx258_0, hx258_1, hx258_2⟩ := at_T55 HR0.out x3_1 p258 q258
        cases e258
        replace hx258_0 := (HB.out.cell (World.block_lt_of_cell? w _ hx258_0)).trans hx258_0
        replace hx258_1 := (HB.out.cell (World.block_lt_of_cell? w _ hx258_1)).trans hx258_1
        replace hx258_2 := (HB.out.cell (World.block_lt_of_cell? w _ hx258_2)).trans hx258_2
        replace p258 := eq_true p258
        replace q258 := eq_true q258
        go_wp2_with (first | ((with_reducible refine gate_dst (N := 4) rfl ?_); refine box_event ?hg (N := 4) ?hd (cs := #[.int .i64 0, .int .i64 0, .int .i64 0]) (t := 55) ?hr ?_; (case hd => rfl); (case hg => rfl); (case hr => first | (go_simp; done) | (go_simp; rfl)); intro gb259 hg w9 hbox hb; have n0_ := Aside0.mk (below_step (bb_ HB) hb); have n1_ := Aside0.mk (hbox); have n2_ := Aside0.mk ((by rw [hg]; exact (below_size (bb_ HB)) : w.heap.size ≤ gb259)); have n3_ := Aside0.mk ((by rw [hg]; exact (below_size (bb_ HB)) : w.heap.size ≤ gb259)); clear HB; have HB := n0_; have BK259 := n1_; have GW259 := n2_; have GE259 := n3_; clear n0_ n1_ n2_ n3_; clear hb hbox hg; have hcz10_0 : w9.cell? ⟨gb259, 0, none⟩ = some (.int .i64 0) := (blk_cell BK259.out 0).trans rfl; have hcz10_1 : w9.cell? ⟨gb259, 1, none⟩ = some (.int .i64 0) := (blk_cell BK259.out 1).trans rfl; have hcz10_2 : w9.cell? ⟨gb259, 2, none⟩ = some (.int .i64 0) := (blk_cell BK259.out 2).trans rfl; have hfz10_0 := blk_frozen BK259.out 0; have hfz10_1 := blk_frozen BK259.out 1; have hfz10_2 := blk_frozen BK259.out 2))
        repeat (go_quiet (first | ((with_reducible refine gate_dst (N := 4) rfl ?_); refine box_event ?hg (N := 4) ?hd (cs := #[.int .i64 0, .int .i64 0, .int .i64 0]) (t := 55) ?hr ?_; (case hd => rfl); (case hg => rfl); (case hr => first | (go_simp; done) | (go_simp; rfl)); intro gb259 hg w9 hbox hb; have n0_ := Aside0.mk (below_step (bb_ HB) hb); have n1_ := Aside0.mk (hbox); have n2_ := Aside0.mk ((by rw [hg]; exact (below_size (bb_ HB)) : w.heap.size ≤ gb259)); have n3_ := Aside0.mk ((by rw [hg]; exact (below_size (bb_ HB)) : w.heap.size ≤ gb259)); clear HB; have HB := n0_; have BK259 := n1_; have GW259 := n2_; have GE259 := n3_; clear n0_ n1_ n2_ n3_; clear hb hbox hg; have hcz10_0 : w9.cell? ⟨gb259, 0, none⟩ = some (.int .i64 0) := (blk_cell BK259.out 0).trans rfl; have hcz10_1 : w9.cell? ⟨gb259, 1, none⟩ = some (.int .i64 0) := (blk_cell BK259.out 1).trans rfl; have hcz10_2 : w9.cell? ⟨gb259, 2, none⟩ = some (.int .i64 0) := (blk_cell BK259.out 2).trans rfl; have hfz10_0 := blk_frozen BK259.out 0; have hfz10_1 := blk_frozen BK259.out 1; have hfz10_2 := blk_frozen BK259.out 2)); try go_wp2_with (first | ((with_reducible refine gate_dst (N := 4) rfl ?_); refine box_event ?hg (N := 4) ?hd (cs := #[.int .i64 0, .int .i64 0, .int .i64 0]) (t := 55) ?hr ?_; (case hd => rfl); (case hg => rfl); (case hr => first | (go_simp; done) | (go_simp; rfl)); intro gb259 hg w9 hbox hb; have n0_ := Aside0.mk (below_step (bb_ HB) hb); have n1_ := Aside0.mk (hbox); have n2_ := Aside0.mk ((by rw [hg]; exact (below_size (bb_ HB)) : w.heap.size ≤ gb259)); have n3_ := Aside0.mk ((by rw [hg]; exact (below_size (bb_ HB)) : w.heap.size ≤ gb259)); clear HB; have HB := n0_; have BK259 := n1_; have GW259 := n2_; have GE259 := n3_; clear n0_ n1_ n2_ n3_; clear hb hbox hg; have hcz10_0 : w9.cell? ⟨gb259, 0, none⟩ = some (.int .i64 0) := (blk_cell BK259.out 0).trans rfl; have hcz10_1 : w9.cell? ⟨gb259, 1, none⟩ = some (.int .i64 0) := (blk_cell BK259.out 1).trans rfl; have hcz10_2 : w9.cell? ⟨gb259, 2, none⟩ = some (.int .i64 0) := (blk_cell BK259.out 2).trans rfl; have hfz10_0 := blk_frozen BK259.out 0; have hfz10_1 := blk_frozen BK259.out 1; have hfz10_2 := blk_frozen BK259.out 2)))
        go_ret
        exact ⟨ew_, by repeat (first | (with_reducible first | exact HB.out | apply below_alloc | apply pw_below_drewN | apply below_drew1 | refine below_set ?_ GE259.out) | exact HB.out)⟩
       ·rw [if_neg c8] at H
        have c8b0 : decide (3 < ((rd_T55 l0 x3_1).f0)) = false := decide_eq_false c8
        clear c8
        by_cases c11 : ((rd_T55 l0 x3_1).f1) < 1
        ·rw [if_pos c11] at H
         have c11b0 : decide (((rd_T55 l0 x3_1).f1) < 1) = true := decide_eq_true c11
         clear c11
         obtain rfl := Option.some.inj H
         have p258 : 0 ≤ (x3_1 : Int) := od_
         have q258 : x3_1 < (l0.length : Int) := od_
         obtain ⟨ad258, e258, hx258_0, hx258_1, hx258_2⟩ := at_T55 HR0.out x3_1 p258 q258
         cases e258
         replace hx258_0 := (HB.out.cell (World.block_lt_of_cell? w _ hx258_0)).trans hx258_0
         replace hx258_1 := (HB.out.cell (World.block_lt_of_cell? w _ hx258_1)).trans hx258_1
         replace hx258_2 := (HB.out.cell (World.block_lt_of_cell? w _ hx258_2)).trans hx258_2
         replace p258 := eq_true p258
         replace q258 := eq_true q258
         go_wp2_with (first | ((with_reducible refine gate_dst (N := 4) rfl ?_); refine box_event ?hg (N := 4) ?hd (cs := #[.int .i64 0, .int .i64 0, .int .i64 0]) (t := 55) ?hr ?_; (case hd => rfl); (case hg => rfl); (case hr => first | (go_simp; done) | (go_simp; rfl)); intro gb259 hg w12 hbox hb; have n0_ := Aside0.mk (below_step (bb_ HB) hb); have n1_ := Aside0.mk (hbox); have n2_ := Aside0.mk ((by rw [hg]; exact (below_size (bb_ HB)) : w.heap.size ≤ gb259)); have n3_ := Aside0.mk ((by rw [hg]; exact (below_size (bb_ HB)) : w.heap.size ≤ gb259)); clear HB; have HB := n0_; have BK259 := n1_; have GW259 := n2_; have GE259 := n3_; clear n0_ n1_ n2_ n3_; clear hb hbox hg; have hcz13_0 : w12.cell? ⟨gb259, 0, none⟩ = some (.int .i64 0) := (blk_cell BK259.out 0).trans rfl; have hcz13_1 : w12.cell? ⟨gb259, 1, none⟩ = some (.int .i64 0) := (blk_cell BK259.out 1).trans rfl; have hcz13_2 : w12.cell? ⟨gb259, 2, none⟩ = some (.int .i64 0) := (blk_cell BK259.out 2).trans rfl; have hfz13_0 := blk_frozen BK259.out 0; have hfz13_1 := blk_frozen BK259.out 1; have hfz13_2 := blk_frozen BK259.out 2))
         repeat (go_quiet (first | ((with_reducible refine gate_dst (N := 4) rfl ?_); refine box_event ?hg (N := 4) ?hd (cs := #[.int .i64 0, .int .i64 0, .int .i64 0]) (t := 55) ?hr ?_; (case hd => rfl); (case hg => rfl); (case hr => first | (go_simp; done) | (go_simp; rfl)); intro gb259 hg w12 hbox hb; have n0_ := Aside0.mk (below_step (bb_ HB) hb); have n1_ := Aside0.mk (hbox); have n2_ := Aside0.mk ((by rw [hg]; exact (below_size (bb_ HB)) : w.heap.size ≤ gb259)); have n3_ := Aside0.mk ((by rw [hg]; exact (below_size (bb_ HB)) : w.heap.size ≤ gb259)); clear HB; have HB := n0_; have BK259 := n1_; have GW259 := n2_; have GE259 := n3_; clear n0_ n1_ n2_ n3_; clear hb hbox hg; have hcz13_0 : w12.cell? ⟨gb259, 0, none⟩ = some (.int .i64 0) := (blk_cell BK259.out 0).trans rfl; have hcz13_1 : w12.cell? ⟨gb259, 1, none⟩ = some (.int .i64 0) := (blk_cell BK259.out 1).trans rfl; have hcz13_2 : w12.cell? ⟨gb259, 2, none⟩ = some (.int .i64 0) := (blk_cell BK259.out 2).trans rfl; have hfz13_0 := blk_frozen BK259.out 0; have hfz13_1 := blk_frozen BK259.out 1; have hfz13_2 := blk_frozen BK259.out 2)); try go_wp2_with (first | ((with_reducible refine gate_dst (N := 4) rfl ?_); refine box_event ?hg (N := 4) ?hd (cs := #[.int .i64 0, .int .i64 0, .int .i64 0]) (t := 55) ?hr ?_; (case hd => rfl); (case hg => rfl); (case hr => first | (go_simp; done) | (go_simp; rfl)); intro gb259 hg w12 hbox hb; have n0_ := Aside0.mk (below_step (bb_ HB) hb); have n1_ := Aside0.mk (hbox); have n2_ := Aside0.mk ((by rw [hg]; exact (below_size (bb_ HB)) : w.heap.size ≤ gb259)); have n3_ := Aside0.mk ((by rw [hg]; exact (below_size (bb_ HB)) : w.heap.size ≤ gb259)); clear HB; have HB := n0_; have BK259 := n1_; have GW259 := n2_; have GE259 := n3_; clear n0_ n1_ n2_ n3_; clear hb hbox hg; have hcz13_0 : w12.cell? ⟨gb259, 0, none⟩ = some (.int .i64 0) := (blk_cell BK259.out 0).trans rfl; have hcz13_1 : w12.cell? ⟨gb259, 1, none⟩ = some (.int .i64 0) := (blk_cell BK259.out 1).trans rfl; have hcz13_2 : w12.cell? ⟨gb259, 2, none⟩ = some (.int .i64 0) := (blk_cell BK259.out 2).trans rfl; have hfz13_0 := blk_frozen BK259.out 0; have hfz13_1 := blk_frozen BK259.out 1; have hfz13_2 := blk_frozen BK259.out 2)))
         go_ret
         exact ⟨ew_, by repeat (first | (with_reducible first | exact HB.out | apply below_alloc | apply pw_below_drewN | apply below_drew1 | refine below_set ?_ GE259.out) | exact HB.out)⟩
        ·rw [if_neg c11] at H
         have c11b0 : decide (((rd_T55 l0 x3_1).f1) < 1) = false := decide_eq_false c11
         clear c11
         by_cases c14 : ((rd_T55 l0 x3_1).f1) > 64
         ·rw [if_pos c14] at H
          have c14b0 : decide (64 < ((rd_T55 l0 x3_1).f1)) = true := decide_eq_true c14
          clear c14
          obtain rfl := Option.some.inj H
          have p258 : 0 ≤ (x3_1 : Int) := od_
          have q258 : x3_1 < (l0.length : Int) := od_
          obtain ⟨ad258, e258, hx258_0, hx258_1, hx258_2⟩ := at_T55 HR0.out x3_1 p258 q258
          cases e258
          replace hx258_0 := (HB.out.cell (World.block_lt_of_cell? w _ hx258_0)).trans hx258_0
          replace hx258_1 := (HB.out.cell (World.block_lt_of_cell? w _ hx258_1)).trans hx258_1
          replace hx258_2 := (HB.out.cell (World.block_lt_of_cell? w _ hx258_2)).trans hx258_2
          replace p258 := eq_true p258
          replace q258 := eq_true q258
          go_wp2_with (first | ((with_reducible refine gate_dst (N := 4) rfl ?_); refine box_event ?hg (N := 4) ?hd (cs := #[.int .i64 0, .int .i64 0, .int .i64 0]) (t := 55) ?hr ?_; (case hd => rfl); (case hg => rfl); (case hr => first | (go_simp; done) | (go_simp; rfl)); intro gb259 hg w15 hbox hb; have n0_ := Aside0.mk (below_step (bb_ HB) hb); have n1_ := Aside0.mk (hbox); have n2_ := Aside0.mk ((by rw [hg]; exact (below_size (bb_ HB)) : w.heap.size ≤ gb259)); have n3_ := Aside0.mk ((by rw [hg]; exact (below_size (bb_ HB)) : w.heap.size ≤ gb259)); clear HB; have HB := n0_; have BK259 := n1_; have GW259 := n2_; have GE259 := n3_; clear n0_ n1_ n2_ n3_; clear hb hbox hg; have hcz16_0 : w15.cell? ⟨gb259, 0, none⟩ = some (.int .i64 0) := (blk_cell BK259.out 0).trans rfl; have hcz16_1 : w15.cell? ⟨gb259, 1, none⟩ = some (.int .i64 0) := (blk_cell BK259.out 1).trans rfl; have hcz16_2 : w15.cell? ⟨gb259, 2, none⟩ = some (.int .i64 0) := (blk_cell BK259.out 2).trans rfl; have hfz16_0 := blk_frozen BK259.out 0; have hfz16_1 := blk_frozen BK259.out 1; have hfz16_2 := blk_frozen BK259.out 2))
          repeat (go_quiet (first | ((with_reducible refine gate_dst (N := 4) rfl ?_); refine box_event ?hg (N := 4) ?hd (cs := #[.int .i64 0, .int .i64 0, .int .i64 0]) (t := 55) ?hr ?_; (case hd => rfl); (case hg => rfl); (case hr => first | (go_simp; done) | (go_simp; rfl)); intro gb259 hg w15 hbox hb; have n0_ := Aside0.mk (below_step (bb_ HB) hb); have n1_ := Aside0.mk (hbox); have n2_ := Aside0.mk ((by rw [hg]; exact (below_size (bb_ HB)) : w.heap.size ≤ gb259)); have n3_ := Aside0.mk ((by rw [hg]; exact (below_size (bb_ HB)) : w.heap.size ≤ gb259)); clear HB; have HB := n0_; have BK259 := n1_; have GW259 := n2_; have GE259 := n3_; clear n0_ n1_ n2_ n3_; clear hb hbox hg; have hcz16_0 : w15.cell? ⟨gb259, 0, none⟩ = some (.int .i64 0) := (blk_cell BK259.out 0).trans rfl; have hcz16_1 : w15.cell? ⟨gb259, 1, none⟩ = some (.int .i64 0) := (blk_cell BK259.out 1).trans rfl; have hcz16_2 : w15.cell? ⟨gb259, 2, none⟩ = some (.int .i64 0) := (blk_cell BK259.out 2).trans rfl; have hfz16_0 := blk_frozen BK259.out 0; have hfz16_1 := blk_frozen BK259.out 1; have hfz16_2 := blk_frozen BK259.out 2)); try go_wp2_with (first | ((with_reducible refine gate_dst (N := 4) rfl ?_); refine box_event ?hg (N := 4) ?hd (cs := #[.int .i64 0, .int .i64 0, .int .i64 0]) (t := 55) ?hr ?_; (case hd => rfl); (case hg => rfl); (case hr => first | (go_simp; done) | (go_simp; rfl)); intro gb259 hg w15 hbox hb; have n0_ := Aside0.mk (below_step (bb_ HB) hb); have n1_ := Aside0.mk (hbox); have n2_ := Aside0.mk ((by rw [hg]; exact (below_size (bb_ HB)) : w.heap.size ≤ gb259)); have n3_ := Aside0.mk ((by rw [hg]; exact (below_size (bb_ HB)) : w.heap.size ≤ gb259)); clear HB; have HB := n0_; have BK259 := n1_; have GW259 := n2_; have GE259 := n3_; clear n0_ n1_ n2_ n3_; clear hb hbox hg; have hcz16_0 : w15.cell? ⟨gb259, 0, none⟩ = some (.int .i64 0) := (blk_cell BK259.out 0).trans rfl; have hcz16_1 : w15.cell? ⟨gb259, 1, none⟩ = some (.int .i64 0) := (blk_cell BK259.out 1).trans rfl; have hcz16_2 : w15.cell? ⟨gb259, 2, none⟩ = some (.int .i64 0) := (blk_cell BK259.out 2).trans rfl; have hfz16_0 := blk_frozen BK259.out 0; have hfz16_1 := blk_frozen BK259.out 1; have hfz16_2 := blk_frozen BK259.out 2)))
          go_ret
          exact ⟨ew_, by repeat (first | (with_reducible first | exact HB.out | apply below_alloc | apply pw_below_drewN | apply below_drew1 | refine below_set ?_ GE259.out) | exact HB.out)⟩
         ·rw [if_neg c14] at H
          have c14b0 : decide (64 < ((rd_T55 l0 x3_1).f1)) = false := decide_eq_false c14
          clear c14
          by_cases c17 : ((rd_T55 l0 x3_1).f2) < 0
          ·rw [if_pos c17] at H
           have c17b0 : decide (((rd_T55 l0 x3_1).f2) < 0) = true := decide_eq_true c17
           clear c17
           obtain rfl := Option.some.inj H
           have p258 : 0 ≤ (x3_1 : Int) := od_
           have q258 : x3_1 < (l0.length : Int) := od_
           obtain ⟨ad258, e258, hx258_0, hx258_1, hx258_2⟩ := at_T55 HR0.out x3_1 p258 q258
           cases e258
           replace hx258_0 := (HB.out.cell (World.block_lt_of_cell? w _ hx258_0)).trans hx258_0
           replace hx258_1 := (HB.out.cell (World.block_lt_of_cell? w _ hx258_1)).trans hx258_1
           replace hx258_2 := (HB.out.cell (World.block_lt_of_cell? w _ hx258_2)).trans hx258_2
           replace p258 := eq_true p258
           replace q258 := eq_true q258
           go_wp2_with (first | ((with_reducible refine gate_dst (N := 4) rfl ?_); refine box_event ?hg (N := 4) ?hd (cs := #[.int .i64 0, .int .i64 0, .int .i64 0]) (t := 55) ?hr ?_; (case hd => rfl); (case hg => rfl); (case hr => first | (go_simp; done) | (go_simp; rfl)); intro gb259 hg w18 hbox hb; have n0_ := Aside0.mk (below_step (bb_ HB) hb); have n1_ := Aside0.mk (hbox); have n2_ := Aside0.mk ((by rw [hg]; exact (below_size (bb_ HB)) : w.heap.size ≤ gb259)); have n3_ := Aside0.mk ((by rw [hg]; exact (below_size (bb_ HB)) : w.heap.size ≤ gb259)); clear HB; have HB := n0_; have BK259 := n1_; have GW259 := n2_; have GE259 := n3_; clear n0_ n1_ n2_ n3_; clear hb hbox hg; have hcz19_0 : w18.cell? ⟨gb259, 0, none⟩ = some (.int .i64 0) := (blk_cell BK259.out 0).trans rfl; have hcz19_1 : w18.cell? ⟨gb259, 1, none⟩ = some (.int .i64 0) := (blk_cell BK259.out 1).trans rfl; have hcz19_2 : w18.cell? ⟨gb259, 2, none⟩ = some (.int .i64 0) := (blk_cell BK259.out 2).trans rfl; have hfz19_0 := blk_frozen BK259.out 0; have hfz19_1 := blk_frozen BK259.out 1; have hfz19_2 := blk_frozen BK259.out 2))
           repeat (go_quiet (first | ((with_reducible refine gate_dst (N := 4) rfl ?_); refine box_event ?hg (N := 4) ?hd (cs := #[.int .i64 0, .int .i64 0, .int .i64 0]) (t := 55) ?hr ?_; (case hd => rfl); (case hg => rfl); (case hr => first | (go_simp; done) | (go_simp; rfl)); intro gb259 hg w18 hbox hb; have n0_ := Aside0.mk (below_step (bb_ HB) hb); have n1_ := Aside0.mk (hbox); have n2_ := Aside0.mk ((by rw [hg]; exact (below_size (bb_ HB)) : w.heap.size ≤ gb259)); have n3_ := Aside0.mk ((by rw [hg]; exact (below_size (bb_ HB)) : w.heap.size ≤ gb259)); clear HB; have HB := n0_; have BK259 := n1_; have GW259 := n2_; have GE259 := n3_; clear n0_ n1_ n2_ n3_; clear hb hbox hg; have hcz19_0 : w18.cell? ⟨gb259, 0, none⟩ = some (.int .i64 0) := (blk_cell BK259.out 0).trans rfl; have hcz19_1 : w18.cell? ⟨gb259, 1, none⟩ = some (.int .i64 0) := (blk_cell BK259.out 1).trans rfl; have hcz19_2 : w18.cell? ⟨gb259, 2, none⟩ = some (.int .i64 0) := (blk_cell BK259.out 2).trans rfl; have hfz19_0 := blk_frozen BK259.out 0; have hfz19_1 := blk_frozen BK259.out 1; have hfz19_2 := blk_frozen BK259.out 2)); try go_wp2_with (first | ((with_reducible refine gate_dst (N := 4) rfl ?_); refine box_event ?hg (N := 4) ?hd (cs := #[.int .i64 0, .int .i64 0, .int .i64 0]) (t := 55) ?hr ?_; (case hd => rfl); (case hg => rfl); (case hr => first | (go_simp; done) | (go_simp; rfl)); intro gb259 hg w18 hbox hb; have n0_ := Aside0.mk (below_step (bb_ HB) hb); have n1_ := Aside0.mk (hbox); have n2_ := Aside0.mk ((by rw [hg]; exact (below_size (bb_ HB)) : w.heap.size ≤ gb259)); have n3_ := Aside0.mk ((by rw [hg]; exact (below_size (bb_ HB)) : w.heap.size ≤ gb259)); clear HB; have HB := n0_; have BK259 := n1_; have GW259 := n2_; have GE259 := n3_; clear n0_ n1_ n2_ n3_; clear hb hbox hg; have hcz19_0 : w18.cell? ⟨gb259, 0, none⟩ = some (.int .i64 0) := (blk_cell BK259.out 0).trans rfl; have hcz19_1 : w18.cell? ⟨gb259, 1, none⟩ = some (.int .i64 0) := (blk_cell BK259.out 1).trans rfl; have hcz19_2 : w18.cell? ⟨gb259, 2, none⟩ = some (.int .i64 0) := (blk_cell BK259.out 2).trans rfl; have hfz19_0 := blk_frozen BK259.out 0; have hfz19_1 := blk_frozen BK259.out 1; have hfz19_2 := blk_frozen BK259.out 2)))
           go_ret
           exact ⟨ew_, by repeat (first | (with_reducible first | exact HB.out | apply below_alloc | apply pw_below_drewN | apply below_drew1 | refine below_set ?_ GE259.out) | exact HB.out)⟩
          ·rw [if_neg c17] at H
           have c17b0 : decide (((rd_T55 l0 x3_1).f2) < 0) = false := decide_eq_false c17
           clear c17
           by_cases c20 : ((rd_T55 l0 x3_1).f2) > 36524
           ·rw [if_pos c20] at H
            have c20b0 : decide (36524 < ((rd_T55 l0 x3_1).f2)) = true := decide_eq_true c20
            clear c20
            obtain rfl := Option.some.inj H
            have p258 : 0 ≤ (x3_1 : Int) := od_
            have q258 : x3_1 < (l0.length : Int) := od_
            obtain ⟨ad258, e258, hx258_0, hx258_1, hx258_2⟩ := at_T55 HR0.out x3_1 p258 q258
            cases e258
            replace hx258_0 := (HB.out.cell (World.block_lt_of_cell? w _ hx258_0)).trans hx258_0
            replace hx258_1 := (HB.out.cell (World.block_lt_of_cell? w _ hx258_1)).trans hx258_1
            replace hx258_2 := (HB.out.cell (World.block_lt_of_cell? w _ hx258_2)).trans hx258_2
            replace p258 := eq_true p258
            replace q258 := eq_true q258
            go_wp2_with (first | ((with_reducible refine gate_dst (N := 4) rfl ?_); refine box_event ?hg (N := 4) ?hd (cs := #[.int .i64 0, .int .i64 0, .int .i64 0]) (t := 55) ?hr ?_; (case hd => rfl); (case hg => rfl); (case hr => first | (go_simp; done) | (go_simp; rfl)); intro gb259 hg w21 hbox hb; have n0_ := Aside0.mk (below_step (bb_ HB) hb); have n1_ := Aside0.mk (hbox); have n2_ := Aside0.mk ((by rw [hg]; exact (below_size (bb_ HB)) : w.heap.size ≤ gb259)); have n3_ := Aside0.mk ((by rw [hg]; exact (below_size (bb_ HB)) : w.heap.size ≤ gb259)); clear HB; have HB := n0_; have BK259 := n1_; have GW259 := n2_; have GE259 := n3_; clear n0_ n1_ n2_ n3_; clear hb hbox hg; have hcz22_0 : w21.cell? ⟨gb259, 0, none⟩ = some (.int .i64 0) := (blk_cell BK259.out 0).trans rfl; have hcz22_1 : w21.cell? ⟨gb259, 1, none⟩ = some (.int .i64 0) := (blk_cell BK259.out 1).trans rfl; have hcz22_2 : w21.cell? ⟨gb259, 2, none⟩ = some (.int .i64 0) := (blk_cell BK259.out 2).trans rfl; have hfz22_0 := blk_frozen BK259.out 0; have hfz22_1 := blk_frozen BK259.out 1; have hfz22_2 := blk_frozen BK259.out 2))
            repeat (go_quiet (first | ((with_reducible refine gate_dst (N := 4) rfl ?_); refine box_event ?hg (N := 4) ?hd (cs := #[.int .i64 0, .int .i64 0, .int .i64 0]) (t := 55) ?hr ?_; (case hd => rfl); (case hg => rfl); (case hr => first | (go_simp; done) | (go_simp; rfl)); intro gb259 hg w21 hbox hb; have n0_ := Aside0.mk (below_step (bb_ HB) hb); have n1_ := Aside0.mk (hbox); have n2_ := Aside0.mk ((by rw [hg]; exact (below_size (bb_ HB)) : w.heap.size ≤ gb259)); have n3_ := Aside0.mk ((by rw [hg]; exact (below_size (bb_ HB)) : w.heap.size ≤ gb259)); clear HB; have HB := n0_; have BK259 := n1_; have GW259 := n2_; have GE259 := n3_; clear n0_ n1_ n2_ n3_; clear hb hbox hg; have hcz22_0 : w21.cell? ⟨gb259, 0, none⟩ = some (.int .i64 0) := (blk_cell BK259.out 0).trans rfl; have hcz22_1 : w21.cell? ⟨gb259, 1, none⟩ = some (.int .i64 0) := (blk_cell BK259.out 1).trans rfl; have hcz22_2 : w21.cell? ⟨gb259, 2, none⟩ = some (.int .i64 0) := (blk_cell BK259.out 2).trans rfl; have hfz22_0 := blk_frozen BK259.out 0; have hfz22_1 := blk_frozen BK259.out 1; have hfz22_2 := blk_frozen BK259.out 2)); try go_wp2_with (first | ((with_reducible refine gate_dst (N := 4) rfl ?_); refine box_event ?hg (N := 4) ?hd (cs := #[.int .i64 0, .int .i64 0, .int .i64 0]) (t := 55) ?hr ?_; (case hd => rfl); (case hg => rfl); (case hr => first | (go_simp; done) | (go_simp; rfl)); intro gb259 hg w21 hbox hb; have n0_ := Aside0.mk (below_step (bb_ HB) hb); have n1_ := Aside0.mk (hbox); have n2_ := Aside0.mk ((by rw [hg]; exact (below_size (bb_ HB)) : w.heap.size ≤ gb259)); have n3_ := Aside0.mk ((by rw [hg]; exact (below_size (bb_ HB)) : w.heap.size ≤ gb259)); clear HB; have HB := n0_; have BK259 := n1_; have GW259 := n2_; have GE259 := n3_; clear n0_ n1_ n2_ n3_; clear hb hbox hg; have hcz22_0 : w21.cell? ⟨gb259, 0, none⟩ = some (.int .i64 0) := (blk_cell BK259.out 0).trans rfl; have hcz22_1 : w21.cell? ⟨gb259, 1, none⟩ = some (.int .i64 0) := (blk_cell BK259.out 1).trans rfl; have hcz22_2 : w21.cell? ⟨gb259, 2, none⟩ = some (.int .i64 0) := (blk_cell BK259.out 2).trans rfl; have hfz22_0 := blk_frozen BK259.out 0; have hfz22_1 := blk_frozen BK259.out 1; have hfz22_2 := blk_frozen BK259.out 2)))
            go_ret
            exact ⟨ew_, by repeat (first | (with_reducible first | exact HB.out | apply below_alloc | apply pw_below_drewN | apply below_drew1 | refine below_set ?_ GE259.out) | exact HB.out)⟩
           ·rw [if_neg c20] at H
            have c20b0 : decide (36524 < ((rd_T55 l0 x3_1).f2)) = false := decide_eq_false c20
            clear c20
            by_cases c23 : x3_1 > 0
            ·rw [if_pos c23] at H
             have c23b0 : decide (0 < x3_1) = true := decide_eq_true c23
             clear c23
             obtain ⟨ji24, hji24⟩ : ∃ j_ : Int, (wrap64 (x3_1 - 1)) = j_ := ⟨_, rfl⟩
             replace H : (if 0 ≤ (ji24) then (if (ji24) < (l0.length : Int) then (if ((rd_T55 l0 x3_1).f2) < ((rd_T55 l0 (ji24)).f2) then (some false) else (cohousingref26_Replies.l0 k1 l0 (wrap64 (x3_1 + 1)))) else (none)) else (none)) = some r := by first | (rw [hji24] at H; exact H) | (simp only [hji24] at H ⊢; exact H)
             have hji24w : (IntKind.i64.wrap (x3_1 - 1)) = ji24 := (i64_w _).trans hji24
             by_cases c25 : 0 ≤ (ji24)
             ·rw [if_pos c25] at H
              have c25b0 : decide (0 ≤ (ji24)) = true := decide_eq_true c25
              clear c25
              by_cases c26 : (ji24) < (l0.length : Int)
              ·rw [if_pos c26] at H
               have c26b0 : decide ((ji24) < (l0.length : Int)) = true := decide_eq_true c26
               clear c26
               by_cases c27 : ((rd_T55 l0 x3_1).f2) < ((rd_T55 l0 (ji24)).f2)
               ·rw [if_pos c27] at H
                have c27b0 : decide (((rd_T55 l0 x3_1).f2) < ((rd_T55 l0 (ji24)).f2)) = true := decide_eq_true c27
                clear c27
                obtain rfl := Option.some.inj H
                have p258 : 0 ≤ (x3_1 : Int) := od_
                have q258 : x3_1 < (l0.length : Int) := od_
                obtain ⟨ad258, e258, hx258_0, hx258_1, hx258_2⟩ := at_T55 HR0.out x3_1 p258 q258
                cases e258
                replace hx258_0 := (HB.out.cell (World.block_lt_of_cell? w _ hx258_0)).trans hx258_0
                replace hx258_1 := (HB.out.cell (World.block_lt_of_cell? w _ hx258_1)).trans hx258_1
                replace hx258_2 := (HB.out.cell (World.block_lt_of_cell? w _ hx258_2)).trans hx258_2
                replace p258 := eq_true p258
                replace q258 := eq_true q258
                go_wp2_with (first | ((with_reducible refine gate_dst (N := 4) rfl ?_); refine box_event ?hg (N := 4) ?hd (cs := #[.int .i64 0, .int .i64 0, .int .i64 0]) (t := 55) ?hr ?_; (case hd => rfl); (case hg => rfl); (case hr => first | (go_simp; done) | (go_simp; rfl)); intro gb259 hg w28 hbox hb; have n0_ := Aside0.mk (below_step (bb_ HB) hb); have n1_ := Aside0.mk (hbox); have n2_ := Aside0.mk ((by rw [hg]; exact (below_size (bb_ HB)) : w.heap.size ≤ gb259)); have n3_ := Aside0.mk ((by rw [hg]; exact (below_size (bb_ HB)) : w.heap.size ≤ gb259)); clear HB; have HB := n0_; have BK259 := n1_; have GW259 := n2_; have GE259 := n3_; clear n0_ n1_ n2_ n3_; clear hb hbox hg; have hcz29_0 : w28.cell? ⟨gb259, 0, none⟩ = some (.int .i64 0) := (blk_cell BK259.out 0).trans rfl; have hcz29_1 : w28.cell? ⟨gb259, 1, none⟩ = some (.int .i64 0) := (blk_cell BK259.out 1).trans rfl; have hcz29_2 : w28.cell? ⟨gb259, 2, none⟩ = some (.int .i64 0) := (blk_cell BK259.out 2).trans rfl; have hfz29_0 := blk_frozen BK259.out 0; have hfz29_1 := blk_frozen BK259.out 1; have hfz29_2 := blk_frozen BK259.out 2; have p260 : 0 ≤ ((ji24) : Int) := od_; have q260 : (ji24) < (l0.length : Int) := od_; obtain ⟨ad260, e260, hx260_0, hx260_1, hx260_2⟩ := at_T55 HR0.out (ji24) p260 q260; obtain rfl : ad258 = ad260 := (by injection e260); have hn260_0 : ad258.block ≠ gb259 := Nat.ne_of_lt (Nat.lt_of_lt_of_le (by have := World.block_lt_of_cell? _ _ hx260_0; first | rwa [add_block] at this | exact this) GW259.out); have hn260_1 : ad258.block ≠ gb259 := Nat.ne_of_lt (Nat.lt_of_lt_of_le (by have := World.block_lt_of_cell? _ _ hx260_0; first | rwa [add_block] at this | exact this) GW259.out); have hn260_2 : ad258.block ≠ gb259 := Nat.ne_of_lt (Nat.lt_of_lt_of_le (by have := World.block_lt_of_cell? _ _ hx260_0; first | rwa [add_block] at this | exact this) GW259.out); replace hx260_0 := (HB.out.cell (World.block_lt_of_cell? w _ hx260_0)).trans hx260_0; replace hx260_1 := (HB.out.cell (World.block_lt_of_cell? w _ hx260_1)).trans hx260_1; replace hx260_2 := (HB.out.cell (World.block_lt_of_cell? w _ hx260_2)).trans hx260_2; replace hx260_0 := (cell_far (p := ⟨gb259, 0, none⟩) (by first | (rw [add_block]; exact hn260_0) | (show (Addr.add _ _).block ≠ _; rw [add_block]; exact hn260_0) | exact hn260_0) (.int .i64 ((rd_T55 l0 x3_1).f0))).trans hx260_0; replace hx260_1 := (cell_far (p := ⟨gb259, 0, none⟩) (by first | (rw [add_block]; exact hn260_0) | (show (Addr.add _ _).block ≠ _; rw [add_block]; exact hn260_0) | exact hn260_0) (.int .i64 ((rd_T55 l0 x3_1).f0))).trans hx260_1; replace hx260_2 := (cell_far (p := ⟨gb259, 0, none⟩) (by first | (rw [add_block]; exact hn260_0) | (show (Addr.add _ _).block ≠ _; rw [add_block]; exact hn260_0) | exact hn260_0) (.int .i64 ((rd_T55 l0 x3_1).f0))).trans hx260_2; replace hx260_0 := (cell_far (p := ⟨gb259, 1, none⟩) (by first | (rw [add_block]; exact hn260_1) | (show (Addr.add _ _).block ≠ _; rw [add_block]; exact hn260_1) | exact hn260_1) (.int .i64 ((rd_T55 l0 x3_1).f1))).trans hx260_0; replace hx260_1 := (cell_far (p := ⟨gb259, 1, none⟩) (by first | (rw [add_block]; exact hn260_1) | (show (Addr.add _ _).block ≠ _; rw [add_block]; exact hn260_1) | exact hn260_1) (.int .i64 ((rd_T55 l0 x3_1).f1))).trans hx260_1; replace hx260_2 := (cell_far (p := ⟨gb259, 1, none⟩) (by first | (rw [add_block]; exact hn260_1) | (show (Addr.add _ _).block ≠ _; rw [add_block]; exact hn260_1) | exact hn260_1) (.int .i64 ((rd_T55 l0 x3_1).f1))).trans hx260_2; replace hx260_0 := (cell_far (p := ⟨gb259, 2, none⟩) (by first | (rw [add_block]; exact hn260_2) | (show (Addr.add _ _).block ≠ _; rw [add_block]; exact hn260_2) | exact hn260_2) (.int .i64 ((rd_T55 l0 x3_1).f2))).trans hx260_0; replace hx260_1 := (cell_far (p := ⟨gb259, 2, none⟩) (by first | (rw [add_block]; exact hn260_2) | (show (Addr.add _ _).block ≠ _; rw [add_block]; exact hn260_2) | exact hn260_2) (.int .i64 ((rd_T55 l0 x3_1).f2))).trans hx260_1; replace hx260_2 := (cell_far (p := ⟨gb259, 2, none⟩) (by first | (rw [add_block]; exact hn260_2) | (show (Addr.add _ _).block ≠ _; rw [add_block]; exact hn260_2) | exact hn260_2) (.int .i64 ((rd_T55 l0 x3_1).f2))).trans hx260_2; (try have hy260_0 := fun (n_ : Nat) => (show (((((w28.drewN n_).setCell ⟨gb259, 0, none⟩ (.int .i64 ((rd_T55 l0 x3_1).f0))).setCell ⟨gb259, 1, none⟩ (.int .i64 ((rd_T55 l0 x3_1).f1))).setCell ⟨gb259, 2, none⟩ (.int .i64 ((rd_T55 l0 x3_1).f2)))).cell? _ = some _ from hx260_0)); (try have hy260_1 := fun (n_ : Nat) => (show (((((w28.drewN n_).setCell ⟨gb259, 0, none⟩ (.int .i64 ((rd_T55 l0 x3_1).f0))).setCell ⟨gb259, 1, none⟩ (.int .i64 ((rd_T55 l0 x3_1).f1))).setCell ⟨gb259, 2, none⟩ (.int .i64 ((rd_T55 l0 x3_1).f2)))).cell? _ = some _ from hx260_1)); (try have hy260_2 := fun (n_ : Nat) => (show (((((w28.drewN n_).setCell ⟨gb259, 0, none⟩ (.int .i64 ((rd_T55 l0 x3_1).f0))).setCell ⟨gb259, 1, none⟩ (.int .i64 ((rd_T55 l0 x3_1).f1))).setCell ⟨gb259, 2, none⟩ (.int .i64 ((rd_T55 l0 x3_1).f2)))).cell? _ = some _ from hx260_2)); clear hn260_0; clear hn260_1; clear hn260_2; replace p260 := eq_true p260; replace q260 := eq_true q260))
                repeat (go_quiet (first | ((with_reducible refine gate_dst (N := 4) rfl ?_); refine box_event ?hg (N := 4) ?hd (cs := #[.int .i64 0, .int .i64 0, .int .i64 0]) (t := 55) ?hr ?_; (case hd => rfl); (case hg => rfl); (case hr => first | (go_simp; done) | (go_simp; rfl)); intro gb259 hg w28 hbox hb; have n0_ := Aside0.mk (below_step (bb_ HB) hb); have n1_ := Aside0.mk (hbox); have n2_ := Aside0.mk ((by rw [hg]; exact (below_size (bb_ HB)) : w.heap.size ≤ gb259)); have n3_ := Aside0.mk ((by rw [hg]; exact (below_size (bb_ HB)) : w.heap.size ≤ gb259)); clear HB; have HB := n0_; have BK259 := n1_; have GW259 := n2_; have GE259 := n3_; clear n0_ n1_ n2_ n3_; clear hb hbox hg; have hcz29_0 : w28.cell? ⟨gb259, 0, none⟩ = some (.int .i64 0) := (blk_cell BK259.out 0).trans rfl; have hcz29_1 : w28.cell? ⟨gb259, 1, none⟩ = some (.int .i64 0) := (blk_cell BK259.out 1).trans rfl; have hcz29_2 : w28.cell? ⟨gb259, 2, none⟩ = some (.int .i64 0) := (blk_cell BK259.out 2).trans rfl; have hfz29_0 := blk_frozen BK259.out 0; have hfz29_1 := blk_frozen BK259.out 1; have hfz29_2 := blk_frozen BK259.out 2; have p260 : 0 ≤ ((ji24) : Int) := od_; have q260 : (ji24) < (l0.length : Int) := od_; obtain ⟨ad260, e260, hx260_0, hx260_1, hx260_2⟩ := at_T55 HR0.out (ji24) p260 q260; obtain rfl : ad258 = ad260 := (by injection e260); have hn260_0 : ad258.block ≠ gb259 := Nat.ne_of_lt (Nat.lt_of_lt_of_le (by have := World.block_lt_of_cell? _ _ hx260_0; first | rwa [add_block] at this | exact this) GW259.out); have hn260_1 : ad258.block ≠ gb259 := Nat.ne_of_lt (Nat.lt_of_lt_of_le (by have := World.block_lt_of_cell? _ _ hx260_0; first | rwa [add_block] at this | exact this) GW259.out); have hn260_2 : ad258.block ≠ gb259 := Nat.ne_of_lt (Nat.lt_of_lt_of_le (by have := World.block_lt_of_cell? _ _ hx260_0; first | rwa [add_block] at this | exact this) GW259.out); replace hx260_0 := (HB.out.cell (World.block_lt_of_cell? w _ hx260_0)).trans hx260_0; replace hx260_1 := (HB.out.cell (World.block_lt_of_cell? w _ hx260_1)).trans hx260_1; replace hx260_2 := (HB.out.cell (World.block_lt_of_cell? w _ hx260_2)).trans hx260_2; replace hx260_0 := (cell_far (p := ⟨gb259, 0, none⟩) (by first | (rw [add_block]; exact hn260_0) | (show (Addr.add _ _).block ≠ _; rw [add_block]; exact hn260_0) | exact hn260_0) (.int .i64 ((rd_T55 l0 x3_1).f0))).trans hx260_0; replace hx260_1 := (cell_far (p := ⟨gb259, 0, none⟩) (by first | (rw [add_block]; exact hn260_0) | (show (Addr.add _ _).block ≠ _; rw [add_block]; exact hn260_0) | exact hn260_0) (.int .i64 ((rd_T55 l0 x3_1).f0))).trans hx260_1; replace hx260_2 := (cell_far (p := ⟨gb259, 0, none⟩) (by first | (rw [add_block]; exact hn260_0) | (show (Addr.add _ _).block ≠ _; rw [add_block]; exact hn260_0) | exact hn260_0) (.int .i64 ((rd_T55 l0 x3_1).f0))).trans hx260_2; replace hx260_0 := (cell_far (p := ⟨gb259, 1, none⟩) (by first | (rw [add_block]; exact hn260_1) | (show (Addr.add _ _).block ≠ _; rw [add_block]; exact hn260_1) | exact hn260_1) (.int .i64 ((rd_T55 l0 x3_1).f1))).trans hx260_0; replace hx260_1 := (cell_far (p := ⟨gb259, 1, none⟩) (by first | (rw [add_block]; exact hn260_1) | (show (Addr.add _ _).block ≠ _; rw [add_block]; exact hn260_1) | exact hn260_1) (.int .i64 ((rd_T55 l0 x3_1).f1))).trans hx260_1; replace hx260_2 := (cell_far (p := ⟨gb259, 1, none⟩) (by first | (rw [add_block]; exact hn260_1) | (show (Addr.add _ _).block ≠ _; rw [add_block]; exact hn260_1) | exact hn260_1) (.int .i64 ((rd_T55 l0 x3_1).f1))).trans hx260_2; replace hx260_0 := (cell_far (p := ⟨gb259, 2, none⟩) (by first | (rw [add_block]; exact hn260_2) | (show (Addr.add _ _).block ≠ _; rw [add_block]; exact hn260_2) | exact hn260_2) (.int .i64 ((rd_T55 l0 x3_1).f2))).trans hx260_0; replace hx260_1 := (cell_far (p := ⟨gb259, 2, none⟩) (by first | (rw [add_block]; exact hn260_2) | (show (Addr.add _ _).block ≠ _; rw [add_block]; exact hn260_2) | exact hn260_2) (.int .i64 ((rd_T55 l0 x3_1).f2))).trans hx260_1; replace hx260_2 := (cell_far (p := ⟨gb259, 2, none⟩) (by first | (rw [add_block]; exact hn260_2) | (show (Addr.add _ _).block ≠ _; rw [add_block]; exact hn260_2) | exact hn260_2) (.int .i64 ((rd_T55 l0 x3_1).f2))).trans hx260_2; (try have hy260_0 := fun (n_ : Nat) => (show (((((w28.drewN n_).setCell ⟨gb259, 0, none⟩ (.int .i64 ((rd_T55 l0 x3_1).f0))).setCell ⟨gb259, 1, none⟩ (.int .i64 ((rd_T55 l0 x3_1).f1))).setCell ⟨gb259, 2, none⟩ (.int .i64 ((rd_T55 l0 x3_1).f2)))).cell? _ = some _ from hx260_0)); (try have hy260_1 := fun (n_ : Nat) => (show (((((w28.drewN n_).setCell ⟨gb259, 0, none⟩ (.int .i64 ((rd_T55 l0 x3_1).f0))).setCell ⟨gb259, 1, none⟩ (.int .i64 ((rd_T55 l0 x3_1).f1))).setCell ⟨gb259, 2, none⟩ (.int .i64 ((rd_T55 l0 x3_1).f2)))).cell? _ = some _ from hx260_1)); (try have hy260_2 := fun (n_ : Nat) => (show (((((w28.drewN n_).setCell ⟨gb259, 0, none⟩ (.int .i64 ((rd_T55 l0 x3_1).f0))).setCell ⟨gb259, 1, none⟩ (.int .i64 ((rd_T55 l0 x3_1).f1))).setCell ⟨gb259, 2, none⟩ (.int .i64 ((rd_T55 l0 x3_1).f2)))).cell? _ = some _ from hx260_2)); clear hn260_0; clear hn260_1; clear hn260_2; replace p260 := eq_true p260; replace q260 := eq_true q260)); try go_wp2_with (first | ((with_reducible refine gate_dst (N := 4) rfl ?_); refine box_event ?hg (N := 4) ?hd (cs := #[.int .i64 0, .int .i64 0, .int .i64 0]) (t := 55) ?hr ?_; (case hd => rfl); (case hg => rfl); (case hr => first | (go_simp; done) | (go_simp; rfl)); intro gb259 hg w28 hbox hb; have n0_ := Aside0.mk (below_step (bb_ HB) hb); have n1_ := Aside0.mk (hbox); have n2_ := Aside0.mk ((by rw [hg]; exact (below_size (bb_ HB)) : w.heap.size ≤ gb259)); have n3_ := Aside0.mk ((by rw [hg]; exact (below_size (bb_ HB)) : w.heap.size ≤ gb259)); clear HB; have HB := n0_; have BK259 := n1_; have GW259 := n2_; have GE259 := n3_; clear n0_ n1_ n2_ n3_; clear hb hbox hg; have hcz29_0 : w28.cell? ⟨gb259, 0, none⟩ = some (.int .i64 0) := (blk_cell BK259.out 0).trans rfl; have hcz29_1 : w28.cell? ⟨gb259, 1, none⟩ = some (.int .i64 0) := (blk_cell BK259.out 1).trans rfl; have hcz29_2 : w28.cell? ⟨gb259, 2, none⟩ = some (.int .i64 0) := (blk_cell BK259.out 2).trans rfl; have hfz29_0 := blk_frozen BK259.out 0; have hfz29_1 := blk_frozen BK259.out 1; have hfz29_2 := blk_frozen BK259.out 2; have p260 : 0 ≤ ((ji24) : Int) := od_; have q260 : (ji24) < (l0.length : Int) := od_; obtain ⟨ad260, e260, hx260_0, hx260_1, hx260_2⟩ := at_T55 HR0.out (ji24) p260 q260; obtain rfl : ad258 = ad260 := (by injection e260); have hn260_0 : ad258.block ≠ gb259 := Nat.ne_of_lt (Nat.lt_of_lt_of_le (by have := World.block_lt_of_cell? _ _ hx260_0; first | rwa [add_block] at this | exact this) GW259.out); have hn260_1 : ad258.block ≠ gb259 := Nat.ne_of_lt (Nat.lt_of_lt_of_le (by have := World.block_lt_of_cell? _ _ hx260_0; first | rwa [add_block] at this | exact this) GW259.out); have hn260_2 : ad258.block ≠ gb259 := Nat.ne_of_lt (Nat.lt_of_lt_of_le (by have := World.block_lt_of_cell? _ _ hx260_0; first | rwa [add_block] at this | exact this) GW259.out); replace hx260_0 := (HB.out.cell (World.block_lt_of_cell? w _ hx260_0)).trans hx260_0; replace hx260_1 := (HB.out.cell (World.block_lt_of_cell? w _ hx260_1)).trans hx260_1; replace hx260_2 := (HB.out.cell (World.block_lt_of_cell? w _ hx260_2)).trans hx260_2; replace hx260_0 := (cell_far (p := ⟨gb259, 0, none⟩) (by first | (rw [add_block]; exact hn260_0) | (show (Addr.add _ _).block ≠ _; rw [add_block]; exact hn260_0) | exact hn260_0) (.int .i64 ((rd_T55 l0 x3_1).f0))).trans hx260_0; replace hx260_1 := (cell_far (p := ⟨gb259, 0, none⟩) (by first | (rw [add_block]; exact hn260_0) | (show (Addr.add _ _).block ≠ _; rw [add_block]; exact hn260_0) | exact hn260_0) (.int .i64 ((rd_T55 l0 x3_1).f0))).trans hx260_1; replace hx260_2 := (cell_far (p := ⟨gb259, 0, none⟩) (by first | (rw [add_block]; exact hn260_0) | (show (Addr.add _ _).block ≠ _; rw [add_block]; exact hn260_0) | exact hn260_0) (.int .i64 ((rd_T55 l0 x3_1).f0))).trans hx260_2; replace hx260_0 := (cell_far (p := ⟨gb259, 1, none⟩) (by first | (rw [add_block]; exact hn260_1) | (show (Addr.add _ _).block ≠ _; rw [add_block]; exact hn260_1) | exact hn260_1) (.int .i64 ((rd_T55 l0 x3_1).f1))).trans hx260_0; replace hx260_1 := (cell_far (p := ⟨gb259, 1, none⟩) (by first | (rw [add_block]; exact hn260_1) | (show (Addr.add _ _).block ≠ _; rw [add_block]; exact hn260_1) | exact hn260_1) (.int .i64 ((rd_T55 l0 x3_1).f1))).trans hx260_1; replace hx260_2 := (cell_far (p := ⟨gb259, 1, none⟩) (by first | (rw [add_block]; exact hn260_1) | (show (Addr.add _ _).block ≠ _; rw [add_block]; exact hn260_1) | exact hn260_1) (.int .i64 ((rd_T55 l0 x3_1).f1))).trans hx260_2; replace hx260_0 := (cell_far (p := ⟨gb259, 2, none⟩) (by first | (rw [add_block]; exact hn260_2) | (show (Addr.add _ _).block ≠ _; rw [add_block]; exact hn260_2) | exact hn260_2) (.int .i64 ((rd_T55 l0 x3_1).f2))).trans hx260_0; replace hx260_1 := (cell_far (p := ⟨gb259, 2, none⟩) (by first | (rw [add_block]; exact hn260_2) | (show (Addr.add _ _).block ≠ _; rw [add_block]; exact hn260_2) | exact hn260_2) (.int .i64 ((rd_T55 l0 x3_1).f2))).trans hx260_1; replace hx260_2 := (cell_far (p := ⟨gb259, 2, none⟩) (by first | (rw [add_block]; exact hn260_2) | (show (Addr.add _ _).block ≠ _; rw [add_block]; exact hn260_2) | exact hn260_2) (.int .i64 ((rd_T55 l0 x3_1).f2))).trans hx260_2; (try have hy260_0 := fun (n_ : Nat) => (show (((((w28.drewN n_).setCell ⟨gb259, 0, none⟩ (.int .i64 ((rd_T55 l0 x3_1).f0))).setCell ⟨gb259, 1, none⟩ (.int .i64 ((rd_T55 l0 x3_1).f1))).setCell ⟨gb259, 2, none⟩ (.int .i64 ((rd_T55 l0 x3_1).f2)))).cell? _ = some _ from hx260_0)); (try have hy260_1 := fun (n_ : Nat) => (show (((((w28.drewN n_).setCell ⟨gb259, 0, none⟩ (.int .i64 ((rd_T55 l0 x3_1).f0))).setCell ⟨gb259, 1, none⟩ (.int .i64 ((rd_T55 l0 x3_1).f1))).setCell ⟨gb259, 2, none⟩ (.int .i64 ((rd_T55 l0 x3_1).f2)))).cell? _ = some _ from hx260_1)); (try have hy260_2 := fun (n_ : Nat) => (show (((((w28.drewN n_).setCell ⟨gb259, 0, none⟩ (.int .i64 ((rd_T55 l0 x3_1).f0))).setCell ⟨gb259, 1, none⟩ (.int .i64 ((rd_T55 l0 x3_1).f1))).setCell ⟨gb259, 2, none⟩ (.int .i64 ((rd_T55 l0 x3_1).f2)))).cell? _ = some _ from hx260_2)); clear hn260_0; clear hn260_1; clear hn260_2; replace p260 := eq_true p260; replace q260 := eq_true q260)))
                go_ret
                exact ⟨by first | rfl | (simp [errW_none, errW_some] <;> rfl) | (simp only [← hji24]; first | rfl | (simp [errW_none, errW_some] <;> rfl)) | (simp [*, errW_none, errW_some] <;> rfl), by repeat (first | (with_reducible first | exact HB.out | apply below_alloc | apply pw_below_drewN | apply below_drew1 | refine below_set ?_ GE259.out) | exact HB.out)⟩
               ·rw [if_neg c27] at H
                have c27b0 : decide (((rd_T55 l0 x3_1).f2) < ((rd_T55 l0 (ji24)).f2)) = false := decide_eq_false c27
                clear c27
                have H' := Aside0.mk H
                clear H
                have p258 : 0 ≤ (x3_1 : Int) := od_
                have q258 : x3_1 < (l0.length : Int) := od_
                obtain ⟨ad258, e258, hx258_0, hx258_1, hx258_2⟩ := at_T55 HR0.out x3_1 p258 q258
                cases e258
                replace hx258_0 := (HB.out.cell (World.block_lt_of_cell? w _ hx258_0)).trans hx258_0
                replace hx258_1 := (HB.out.cell (World.block_lt_of_cell? w _ hx258_1)).trans hx258_1
                replace hx258_2 := (HB.out.cell (World.block_lt_of_cell? w _ hx258_2)).trans hx258_2
                replace p258 := eq_true p258
                replace q258 := eq_true q258
                go_wp2_with (first | ((with_reducible refine gate_dst (N := 4) rfl ?_); refine box_event ?hg (N := 4) ?hd (cs := #[.int .i64 0, .int .i64 0, .int .i64 0]) (t := 55) ?hr ?_; (case hd => rfl); (case hg => rfl); (case hr => first | (go_simp; done) | (go_simp; rfl)); intro gb259 hg w30 hbox hb; have n0_ := Aside0.mk (below_step (bb_ HB) hb); have n1_ := Aside0.mk (hbox); have n2_ := Aside0.mk ((by rw [hg]; exact (below_size (bb_ HB)) : w.heap.size ≤ gb259)); have n3_ := Aside0.mk ((by rw [hg]; exact (below_size (bb_ HB)) : w.heap.size ≤ gb259)); clear HB; have HB := n0_; have BK259 := n1_; have GW259 := n2_; have GE259 := n3_; clear n0_ n1_ n2_ n3_; clear hb hbox hg; have hcz31_0 : w30.cell? ⟨gb259, 0, none⟩ = some (.int .i64 0) := (blk_cell BK259.out 0).trans rfl; have hcz31_1 : w30.cell? ⟨gb259, 1, none⟩ = some (.int .i64 0) := (blk_cell BK259.out 1).trans rfl; have hcz31_2 : w30.cell? ⟨gb259, 2, none⟩ = some (.int .i64 0) := (blk_cell BK259.out 2).trans rfl; have hfz31_0 := blk_frozen BK259.out 0; have hfz31_1 := blk_frozen BK259.out 1; have hfz31_2 := blk_frozen BK259.out 2; have p260 : 0 ≤ ((ji24) : Int) := od_; have q260 : (ji24) < (l0.length : Int) := od_; obtain ⟨ad260, e260, hx260_0, hx260_1, hx260_2⟩ := at_T55 HR0.out (ji24) p260 q260; obtain rfl : ad258 = ad260 := (by injection e260); have hn260_0 : ad258.block ≠ gb259 := Nat.ne_of_lt (Nat.lt_of_lt_of_le (by have := World.block_lt_of_cell? _ _ hx260_0; first | rwa [add_block] at this | exact this) GW259.out); have hn260_1 : ad258.block ≠ gb259 := Nat.ne_of_lt (Nat.lt_of_lt_of_le (by have := World.block_lt_of_cell? _ _ hx260_0; first | rwa [add_block] at this | exact this) GW259.out); have hn260_2 : ad258.block ≠ gb259 := Nat.ne_of_lt (Nat.lt_of_lt_of_le (by have := World.block_lt_of_cell? _ _ hx260_0; first | rwa [add_block] at this | exact this) GW259.out); replace hx260_0 := (HB.out.cell (World.block_lt_of_cell? w _ hx260_0)).trans hx260_0; replace hx260_1 := (HB.out.cell (World.block_lt_of_cell? w _ hx260_1)).trans hx260_1; replace hx260_2 := (HB.out.cell (World.block_lt_of_cell? w _ hx260_2)).trans hx260_2; replace hx260_0 := (cell_far (p := ⟨gb259, 0, none⟩) (by first | (rw [add_block]; exact hn260_0) | (show (Addr.add _ _).block ≠ _; rw [add_block]; exact hn260_0) | exact hn260_0) (.int .i64 ((rd_T55 l0 x3_1).f0))).trans hx260_0; replace hx260_1 := (cell_far (p := ⟨gb259, 0, none⟩) (by first | (rw [add_block]; exact hn260_0) | (show (Addr.add _ _).block ≠ _; rw [add_block]; exact hn260_0) | exact hn260_0) (.int .i64 ((rd_T55 l0 x3_1).f0))).trans hx260_1; replace hx260_2 := (cell_far (p := ⟨gb259, 0, none⟩) (by first | (rw [add_block]; exact hn260_0) | (show (Addr.add _ _).block ≠ _; rw [add_block]; exact hn260_0) | exact hn260_0) (.int .i64 ((rd_T55 l0 x3_1).f0))).trans hx260_2; replace hx260_0 := (cell_far (p := ⟨gb259, 1, none⟩) (by first | (rw [add_block]; exact hn260_1) | (show (Addr.add _ _).block ≠ _; rw [add_block]; exact hn260_1) | exact hn260_1) (.int .i64 ((rd_T55 l0 x3_1).f1))).trans hx260_0; replace hx260_1 := (cell_far (p := ⟨gb259, 1, none⟩) (by first | (rw [add_block]; exact hn260_1) | (show (Addr.add _ _).block ≠ _; rw [add_block]; exact hn260_1) | exact hn260_1) (.int .i64 ((rd_T55 l0 x3_1).f1))).trans hx260_1; replace hx260_2 := (cell_far (p := ⟨gb259, 1, none⟩) (by first | (rw [add_block]; exact hn260_1) | (show (Addr.add _ _).block ≠ _; rw [add_block]; exact hn260_1) | exact hn260_1) (.int .i64 ((rd_T55 l0 x3_1).f1))).trans hx260_2; replace hx260_0 := (cell_far (p := ⟨gb259, 2, none⟩) (by first | (rw [add_block]; exact hn260_2) | (show (Addr.add _ _).block ≠ _; rw [add_block]; exact hn260_2) | exact hn260_2) (.int .i64 ((rd_T55 l0 x3_1).f2))).trans hx260_0; replace hx260_1 := (cell_far (p := ⟨gb259, 2, none⟩) (by first | (rw [add_block]; exact hn260_2) | (show (Addr.add _ _).block ≠ _; rw [add_block]; exact hn260_2) | exact hn260_2) (.int .i64 ((rd_T55 l0 x3_1).f2))).trans hx260_1; replace hx260_2 := (cell_far (p := ⟨gb259, 2, none⟩) (by first | (rw [add_block]; exact hn260_2) | (show (Addr.add _ _).block ≠ _; rw [add_block]; exact hn260_2) | exact hn260_2) (.int .i64 ((rd_T55 l0 x3_1).f2))).trans hx260_2; (try have hy260_0 := fun (n_ : Nat) => (show (((((w30.drewN n_).setCell ⟨gb259, 0, none⟩ (.int .i64 ((rd_T55 l0 x3_1).f0))).setCell ⟨gb259, 1, none⟩ (.int .i64 ((rd_T55 l0 x3_1).f1))).setCell ⟨gb259, 2, none⟩ (.int .i64 ((rd_T55 l0 x3_1).f2)))).cell? _ = some _ from hx260_0)); (try have hy260_1 := fun (n_ : Nat) => (show (((((w30.drewN n_).setCell ⟨gb259, 0, none⟩ (.int .i64 ((rd_T55 l0 x3_1).f0))).setCell ⟨gb259, 1, none⟩ (.int .i64 ((rd_T55 l0 x3_1).f1))).setCell ⟨gb259, 2, none⟩ (.int .i64 ((rd_T55 l0 x3_1).f2)))).cell? _ = some _ from hx260_1)); (try have hy260_2 := fun (n_ : Nat) => (show (((((w30.drewN n_).setCell ⟨gb259, 0, none⟩ (.int .i64 ((rd_T55 l0 x3_1).f0))).setCell ⟨gb259, 1, none⟩ (.int .i64 ((rd_T55 l0 x3_1).f1))).setCell ⟨gb259, 2, none⟩ (.int .i64 ((rd_T55 l0 x3_1).f2)))).cell? _ = some _ from hx260_2)); clear hn260_0; clear hn260_1; clear hn260_2; replace p260 := eq_true p260; replace q260 := eq_true q260))
                repeat (go_quiet (first | ((with_reducible refine gate_dst (N := 4) rfl ?_); refine box_event ?hg (N := 4) ?hd (cs := #[.int .i64 0, .int .i64 0, .int .i64 0]) (t := 55) ?hr ?_; (case hd => rfl); (case hg => rfl); (case hr => first | (go_simp; done) | (go_simp; rfl)); intro gb259 hg w30 hbox hb; have n0_ := Aside0.mk (below_step (bb_ HB) hb); have n1_ := Aside0.mk (hbox); have n2_ := Aside0.mk ((by rw [hg]; exact (below_size (bb_ HB)) : w.heap.size ≤ gb259)); have n3_ := Aside0.mk ((by rw [hg]; exact (below_size (bb_ HB)) : w.heap.size ≤ gb259)); clear HB; have HB := n0_; have BK259 := n1_; have GW259 := n2_; have GE259 := n3_; clear n0_ n1_ n2_ n3_; clear hb hbox hg; have hcz31_0 : w30.cell? ⟨gb259, 0, none⟩ = some (.int .i64 0) := (blk_cell BK259.out 0).trans rfl; have hcz31_1 : w30.cell? ⟨gb259, 1, none⟩ = some (.int .i64 0) := (blk_cell BK259.out 1).trans rfl; have hcz31_2 : w30.cell? ⟨gb259, 2, none⟩ = some (.int .i64 0) := (blk_cell BK259.out 2).trans rfl; have hfz31_0 := blk_frozen BK259.out 0; have hfz31_1 := blk_frozen BK259.out 1; have hfz31_2 := blk_frozen BK259.out 2; have p260 : 0 ≤ ((ji24) : Int) := od_; have q260 : (ji24) < (l0.length : Int) := od_; obtain ⟨ad260, e260, hx260_0, hx260_1, hx260_2⟩ := at_T55 HR0.out (ji24) p260 q260; obtain rfl : ad258 = ad260 := (by injection e260); have hn260_0 : ad258.block ≠ gb259 := Nat.ne_of_lt (Nat.lt_of_lt_of_le (by have := World.block_lt_of_cell? _ _ hx260_0; first | rwa [add_block] at this | exact this) GW259.out); have hn260_1 : ad258.block ≠ gb259 := Nat.ne_of_lt (Nat.lt_of_lt_of_le (by have := World.block_lt_of_cell? _ _ hx260_0; first | rwa [add_block] at this | exact this) GW259.out); have hn260_2 : ad258.block ≠ gb259 := Nat.ne_of_lt (Nat.lt_of_lt_of_le (by have := World.block_lt_of_cell? _ _ hx260_0; first | rwa [add_block] at this | exact this) GW259.out); replace hx260_0 := (HB.out.cell (World.block_lt_of_cell? w _ hx260_0)).trans hx260_0; replace hx260_1 := (HB.out.cell (World.block_lt_of_cell? w _ hx260_1)).trans hx260_1; replace hx260_2 := (HB.out.cell (World.block_lt_of_cell? w _ hx260_2)).trans hx260_2; replace hx260_0 := (cell_far (p := ⟨gb259, 0, none⟩) (by first | (rw [add_block]; exact hn260_0) | (show (Addr.add _ _).block ≠ _; rw [add_block]; exact hn260_0) | exact hn260_0) (.int .i64 ((rd_T55 l0 x3_1).f0))).trans hx260_0; replace hx260_1 := (cell_far (p := ⟨gb259, 0, none⟩) (by first | (rw [add_block]; exact hn260_0) | (show (Addr.add _ _).block ≠ _; rw [add_block]; exact hn260_0) | exact hn260_0) (.int .i64 ((rd_T55 l0 x3_1).f0))).trans hx260_1; replace hx260_2 := (cell_far (p := ⟨gb259, 0, none⟩) (by first | (rw [add_block]; exact hn260_0) | (show (Addr.add _ _).block ≠ _; rw [add_block]; exact hn260_0) | exact hn260_0) (.int .i64 ((rd_T55 l0 x3_1).f0))).trans hx260_2; replace hx260_0 := (cell_far (p := ⟨gb259, 1, none⟩) (by first | (rw [add_block]; exact hn260_1) | (show (Addr.add _ _).block ≠ _; rw [add_block]; exact hn260_1) | exact hn260_1) (.int .i64 ((rd_T55 l0 x3_1).f1))).trans hx260_0; replace hx260_1 := (cell_far (p := ⟨gb259, 1, none⟩) (by first | (rw [add_block]; exact hn260_1) | (show (Addr.add _ _).block ≠ _; rw [add_block]; exact hn260_1) | exact hn260_1) (.int .i64 ((rd_T55 l0 x3_1).f1))).trans hx260_1; replace hx260_2 := (cell_far (p := ⟨gb259, 1, none⟩) (by first | (rw [add_block]; exact hn260_1) | (show (Addr.add _ _).block ≠ _; rw [add_block]; exact hn260_1) | exact hn260_1) (.int .i64 ((rd_T55 l0 x3_1).f1))).trans hx260_2; replace hx260_0 := (cell_far (p := ⟨gb259, 2, none⟩) (by first | (rw [add_block]; exact hn260_2) | (show (Addr.add _ _).block ≠ _; rw [add_block]; exact hn260_2) | exact hn260_2) (.int .i64 ((rd_T55 l0 x3_1).f2))).trans hx260_0; replace hx260_1 := (cell_far (p := ⟨gb259, 2, none⟩) (by first | (rw [add_block]; exact hn260_2) | (show (Addr.add _ _).block ≠ _; rw [add_block]; exact hn260_2) | exact hn260_2) (.int .i64 ((rd_T55 l0 x3_1).f2))).trans hx260_1; replace hx260_2 := (cell_far (p := ⟨gb259, 2, none⟩) (by first | (rw [add_block]; exact hn260_2) | (show (Addr.add _ _).block ≠ _; rw [add_block]; exact hn260_2) | exact hn260_2) (.int .i64 ((rd_T55 l0 x3_1).f2))).trans hx260_2; (try have hy260_0 := fun (n_ : Nat) => (show (((((w30.drewN n_).setCell ⟨gb259, 0, none⟩ (.int .i64 ((rd_T55 l0 x3_1).f0))).setCell ⟨gb259, 1, none⟩ (.int .i64 ((rd_T55 l0 x3_1).f1))).setCell ⟨gb259, 2, none⟩ (.int .i64 ((rd_T55 l0 x3_1).f2)))).cell? _ = some _ from hx260_0)); (try have hy260_1 := fun (n_ : Nat) => (show (((((w30.drewN n_).setCell ⟨gb259, 0, none⟩ (.int .i64 ((rd_T55 l0 x3_1).f0))).setCell ⟨gb259, 1, none⟩ (.int .i64 ((rd_T55 l0 x3_1).f1))).setCell ⟨gb259, 2, none⟩ (.int .i64 ((rd_T55 l0 x3_1).f2)))).cell? _ = some _ from hx260_1)); (try have hy260_2 := fun (n_ : Nat) => (show (((((w30.drewN n_).setCell ⟨gb259, 0, none⟩ (.int .i64 ((rd_T55 l0 x3_1).f0))).setCell ⟨gb259, 1, none⟩ (.int .i64 ((rd_T55 l0 x3_1).f1))).setCell ⟨gb259, 2, none⟩ (.int .i64 ((rd_T55 l0 x3_1).f2)))).cell? _ = some _ from hx260_2)); clear hn260_0; clear hn260_1; clear hn260_2; replace p260 := eq_true p260; replace q260 := eq_true q260)); try go_wp2_with (first | ((with_reducible refine gate_dst (N := 4) rfl ?_); refine box_event ?hg (N := 4) ?hd (cs := #[.int .i64 0, .int .i64 0, .int .i64 0]) (t := 55) ?hr ?_; (case hd => rfl); (case hg => rfl); (case hr => first | (go_simp; done) | (go_simp; rfl)); intro gb259 hg w30 hbox hb; have n0_ := Aside0.mk (below_step (bb_ HB) hb); have n1_ := Aside0.mk (hbox); have n2_ := Aside0.mk ((by rw [hg]; exact (below_size (bb_ HB)) : w.heap.size ≤ gb259)); have n3_ := Aside0.mk ((by rw [hg]; exact (below_size (bb_ HB)) : w.heap.size ≤ gb259)); clear HB; have HB := n0_; have BK259 := n1_; have GW259 := n2_; have GE259 := n3_; clear n0_ n1_ n2_ n3_; clear hb hbox hg; have hcz31_0 : w30.cell? ⟨gb259, 0, none⟩ = some (.int .i64 0) := (blk_cell BK259.out 0).trans rfl; have hcz31_1 : w30.cell? ⟨gb259, 1, none⟩ = some (.int .i64 0) := (blk_cell BK259.out 1).trans rfl; have hcz31_2 : w30.cell? ⟨gb259, 2, none⟩ = some (.int .i64 0) := (blk_cell BK259.out 2).trans rfl; have hfz31_0 := blk_frozen BK259.out 0; have hfz31_1 := blk_frozen BK259.out 1; have hfz31_2 := blk_frozen BK259.out 2; have p260 : 0 ≤ ((ji24) : Int) := od_; have q260 : (ji24) < (l0.length : Int) := od_; obtain ⟨ad260, e260, hx260_0, hx260_1, hx260_2⟩ := at_T55 HR0.out (ji24) p260 q260; obtain rfl : ad258 = ad260 := (by injection e260); have hn260_0 : ad258.block ≠ gb259 := Nat.ne_of_lt (Nat.lt_of_lt_of_le (by have := World.block_lt_of_cell? _ _ hx260_0; first | rwa [add_block] at this | exact this) GW259.out); have hn260_1 : ad258.block ≠ gb259 := Nat.ne_of_lt (Nat.lt_of_lt_of_le (by have := World.block_lt_of_cell? _ _ hx260_0; first | rwa [add_block] at this | exact this) GW259.out); have hn260_2 : ad258.block ≠ gb259 := Nat.ne_of_lt (Nat.lt_of_lt_of_le (by have := World.block_lt_of_cell? _ _ hx260_0; first | rwa [add_block] at this | exact this) GW259.out); replace hx260_0 := (HB.out.cell (World.block_lt_of_cell? w _ hx260_0)).trans hx260_0; replace hx260_1 := (HB.out.cell (World.block_lt_of_cell? w _ hx260_1)).trans hx260_1; replace hx260_2 := (HB.out.cell (World.block_lt_of_cell? w _ hx260_2)).trans hx260_2; replace hx260_0 := (cell_far (p := ⟨gb259, 0, none⟩) (by first | (rw [add_block]; exact hn260_0) | (show (Addr.add _ _).block ≠ _; rw [add_block]; exact hn260_0) | exact hn260_0) (.int .i64 ((rd_T55 l0 x3_1).f0))).trans hx260_0; replace hx260_1 := (cell_far (p := ⟨gb259, 0, none⟩) (by first | (rw [add_block]; exact hn260_0) | (show (Addr.add _ _).block ≠ _; rw [add_block]; exact hn260_0) | exact hn260_0) (.int .i64 ((rd_T55 l0 x3_1).f0))).trans hx260_1; replace hx260_2 := (cell_far (p := ⟨gb259, 0, none⟩) (by first | (rw [add_block]; exact hn260_0) | (show (Addr.add _ _).block ≠ _; rw [add_block]; exact hn260_0) | exact hn260_0) (.int .i64 ((rd_T55 l0 x3_1).f0))).trans hx260_2; replace hx260_0 := (cell_far (p := ⟨gb259, 1, none⟩) (by first | (rw [add_block]; exact hn260_1) | (show (Addr.add _ _).block ≠ _; rw [add_block]; exact hn260_1) | exact hn260_1) (.int .i64 ((rd_T55 l0 x3_1).f1))).trans hx260_0; replace hx260_1 := (cell_far (p := ⟨gb259, 1, none⟩) (by first | (rw [add_block]; exact hn260_1) | (show (Addr.add _ _).block ≠ _; rw [add_block]; exact hn260_1) | exact hn260_1) (.int .i64 ((rd_T55 l0 x3_1).f1))).trans hx260_1; replace hx260_2 := (cell_far (p := ⟨gb259, 1, none⟩) (by first | (rw [add_block]; exact hn260_1) | (show (Addr.add _ _).block ≠ _; rw [add_block]; exact hn260_1) | exact hn260_1) (.int .i64 ((rd_T55 l0 x3_1).f1))).trans hx260_2; replace hx260_0 := (cell_far (p := ⟨gb259, 2, none⟩) (by first | (rw [add_block]; exact hn260_2) | (show (Addr.add _ _).block ≠ _; rw [add_block]; exact hn260_2) | exact hn260_2) (.int .i64 ((rd_T55 l0 x3_1).f2))).trans hx260_0; replace hx260_1 := (cell_far (p := ⟨gb259, 2, none⟩) (by first | (rw [add_block]; exact hn260_2) | (show (Addr.add _ _).block ≠ _; rw [add_block]; exact hn260_2) | exact hn260_2) (.int .i64 ((rd_T55 l0 x3_1).f2))).trans hx260_1; replace hx260_2 := (cell_far (p := ⟨gb259, 2, none⟩) (by first | (rw [add_block]; exact hn260_2) | (show (Addr.add _ _).block ≠ _; rw [add_block]; exact hn260_2) | exact hn260_2) (.int .i64 ((rd_T55 l0 x3_1).f2))).trans hx260_2; (try have hy260_0 := fun (n_ : Nat) => (show (((((w30.drewN n_).setCell ⟨gb259, 0, none⟩ (.int .i64 ((rd_T55 l0 x3_1).f0))).setCell ⟨gb259, 1, none⟩ (.int .i64 ((rd_T55 l0 x3_1).f1))).setCell ⟨gb259, 2, none⟩ (.int .i64 ((rd_T55 l0 x3_1).f2)))).cell? _ = some _ from hx260_0)); (try have hy260_1 := fun (n_ : Nat) => (show (((((w30.drewN n_).setCell ⟨gb259, 0, none⟩ (.int .i64 ((rd_T55 l0 x3_1).f0))).setCell ⟨gb259, 1, none⟩ (.int .i64 ((rd_T55 l0 x3_1).f1))).setCell ⟨gb259, 2, none⟩ (.int .i64 ((rd_T55 l0 x3_1).f2)))).cell? _ = some _ from hx260_1)); (try have hy260_2 := fun (n_ : Nat) => (show (((((w30.drewN n_).setCell ⟨gb259, 0, none⟩ (.int .i64 ((rd_T55 l0 x3_1).f0))).setCell ⟨gb259, 1, none⟩ (.int .i64 ((rd_T55 l0 x3_1).f1))).setCell ⟨gb259, 2, none⟩ (.int .i64 ((rd_T55 l0 x3_1).f2)))).cell? _ = some _ from hx260_2)); clear hn260_0; clear hn260_1; clear hn260_2; replace p260 := eq_true p260; replace q260 := eq_true q260)))
                go_roundg k1
                case measure => have := HK1.out; omega
                case rel => exact ⟨(wrap64 (x3_1 + 1)), sd_, H', ⟨by have := HK1.out; omega⟩, ⟨by repeat (first | (with_reducible first | exact HB.out | apply below_alloc | apply pw_below_drewN | apply below_drew1 | refine below_set ?_ GE259.out) | exact HB.out)⟩⟩
              ·rw [if_neg c26] at H
               exact absurd H (by simp)
             ·rw [if_neg c25] at H
              exact absurd H (by simp)
            ·rw [if_neg c23] at H
             have c23b0 : decide (0 < x3_1) = false := decide_eq_false c23
             clear c23
             have H' := Aside0.mk H
             clear H
             have p258 : 0 ≤ (x3_1 : Int) := od_
             have q258 : x3_1 < (l0.length : Int) := od_
             obtain ⟨ad258, e258, hx258_0, hx258_1, hx258_2⟩ := at_T55 HR0.out x3_1 p258 q258
             cases e258
             replace hx258_0 := (HB.out.cell (World.block_lt_of_cell? w _ hx258_0)).trans hx258_0
             replace hx258_1 := (HB.out.cell (World.block_lt_of_cell? w _ hx258_1)).trans hx258_1
             replace hx258_2 := (HB.out.cell (World.block_lt_of_cell? w _ hx258_2)).trans hx258_2
             replace p258 := eq_true p258
             replace q258 := eq_true q258
             go_wp2_with (first | ((with_reducible refine gate_dst (N := 4) rfl ?_); refine box_event ?hg (N := 4) ?hd (cs := #[.int .i64 0, .int .i64 0, .int .i64 0]) (t := 55) ?hr ?_; (case hd => rfl); (case hg => rfl); (case hr => first | (go_simp; done) | (go_simp; rfl)); intro gb259 hg w32 hbox hb; have n0_ := Aside0.mk (below_step (bb_ HB) hb); have n1_ := Aside0.mk (hbox); have n2_ := Aside0.mk ((by rw [hg]; exact (below_size (bb_ HB)) : w.heap.size ≤ gb259)); have n3_ := Aside0.mk ((by rw [hg]; exact (below_size (bb_ HB)) : w.heap.size ≤ gb259)); clear HB; have HB := n0_; have BK259 := n1_; have GW259 := n2_; have GE259 := n3_; clear n0_ n1_ n2_ n3_; clear hb hbox hg; have hcz33_0 : w32.cell? ⟨gb259, 0, none⟩ = some (.int .i64 0) := (blk_cell BK259.out 0).trans rfl; have hcz33_1 : w32.cell? ⟨gb259, 1, none⟩ = some (.int .i64 0) := (blk_cell BK259.out 1).trans rfl; have hcz33_2 : w32.cell? ⟨gb259, 2, none⟩ = some (.int .i64 0) := (blk_cell BK259.out 2).trans rfl; have hfz33_0 := blk_frozen BK259.out 0; have hfz33_1 := blk_frozen BK259.out 1; have hfz33_2 := blk_frozen BK259.out 2))
             repeat (go_quiet (first | ((with_reducible refine gate_dst (N := 4) rfl ?_); refine box_event ?hg (N := 4) ?hd (cs := #[.int .i64 0, .int .i64 0, .int .i64 0]) (t := 55) ?hr ?_; (case hd => rfl); (case hg => rfl); (case hr => first | (go_simp; done) | (go_simp; rfl)); intro gb259 hg w32 hbox hb; have n0_ := Aside0.mk (below_step (bb_ HB) hb); have n1_ := Aside0.mk (hbox); have n2_ := Aside0.mk ((by rw [hg]; exact (below_size (bb_ HB)) : w.heap.size ≤ gb259)); have n3_ := Aside0.mk ((by rw [hg]; exact (below_size (bb_ HB)) : w.heap.size ≤ gb259)); clear HB; have HB := n0_; have BK259 := n1_; have GW259 := n2_; have GE259 := n3_; clear n0_ n1_ n2_ n3_; clear hb hbox hg; have hcz33_0 : w32.cell? ⟨gb259, 0, none⟩ = some (.int .i64 0) := (blk_cell BK259.out 0).trans rfl; have hcz33_1 : w32.cell? ⟨gb259, 1, none⟩ = some (.int .i64 0) := (blk_cell BK259.out 1).trans rfl; have hcz33_2 : w32.cell? ⟨gb259, 2, none⟩ = some (.int .i64 0) := (blk_cell BK259.out 2).trans rfl; have hfz33_0 := blk_frozen BK259.out 0; have hfz33_1 := blk_frozen BK259.out 1; have hfz33_2 := blk_frozen BK259.out 2)); try go_wp2_with (first | ((with_reducible refine gate_dst (N := 4) rfl ?_); refine box_event ?hg (N := 4) ?hd (cs := #[.int .i64 0, .int .i64 0, .int .i64 0]) (t := 55) ?hr ?_; (case hd => rfl); (case hg => rfl); (case hr => first | (go_simp; done) | (go_simp; rfl)); intro gb259 hg w32 hbox hb; have n0_ := Aside0.mk (below_step (bb_ HB) hb); have n1_ := Aside0.mk (hbox); have n2_ := Aside0.mk ((by rw [hg]; exact (below_size (bb_ HB)) : w.heap.size ≤ gb259)); have n3_ := Aside0.mk ((by rw [hg]; exact (below_size (bb_ HB)) : w.heap.size ≤ gb259)); clear HB; have HB := n0_; have BK259 := n1_; have GW259 := n2_; have GE259 := n3_; clear n0_ n1_ n2_ n3_; clear hb hbox hg; have hcz33_0 : w32.cell? ⟨gb259, 0, none⟩ = some (.int .i64 0) := (blk_cell BK259.out 0).trans rfl; have hcz33_1 : w32.cell? ⟨gb259, 1, none⟩ = some (.int .i64 0) := (blk_cell BK259.out 1).trans rfl; have hcz33_2 : w32.cell? ⟨gb259, 2, none⟩ = some (.int .i64 0) := (blk_cell BK259.out 2).trans rfl; have hfz33_0 := blk_frozen BK259.out 0; have hfz33_1 := blk_frozen BK259.out 1; have hfz33_2 := blk_frozen BK259.out 2)))
             go_roundg k1
             case measure => have := HK1.out; omega
             case rel => exact ⟨(wrap64 (x3_1 + 1)), sd_, H', ⟨by have := HK1.out; omega⟩, ⟨by repeat (first | (with_reducible first | exact HB.out | apply below_alloc | apply pw_below_drewN | apply below_drew1 | refine below_set ?_ GE259.out) | exact HB.out)⟩⟩
     ·rw [if_neg c4] at H
      exact absurd H (by simp)
    ·rw [if_neg c3] at H
     have c3b0 : decide (x3_1 < (l0.length : Int)) = false := decide_eq_false c3
     clear c3
     obtain rfl := Option.some.inj H
     go_wp2
     repeat (go_quiet (fail); try go_wp2)
     go_ret
     exact ⟨ew_, by repeat (first | (with_reducible first | exact HB.out | apply below_alloc | apply pw_below_drewN | apply below_drew1) | exact HB.out)⟩
end
section
def cohousinglaw26_usable.f (k : Nat) (l0_0 : List (S84)) (l0_1 : List (S46)) (l1 : List (S49)) (l2 : List (S55)) : Option (Bool) := (cohousingref23_Few.f k l0_0 l0_1).bind fun t380 => (if t380 = true then ((cohousingref26_Few.f k l1 l2).bind fun t381 => (if t381 = true then ((cohousingref23_Valid.f k l0_0 l0_1).bind fun t382 => (if t382 = true then ((cohousingref26_Rings.f k l0_0 l0_1 l1).bind fun t383 => (if t383 = true then ((cohousingref26_Replies.f k l2).bind fun t384 => (some t384)) else (some false))) else (some false))) else (some false))) else (some false))
theorem cohousinglaw26_usable.calls (k : Nat) (A0_0 : Option Addr) (c0_0 : Nat) (l0_0 : List (S84)) (A0_1 : Option Addr) (c0_1 : Nat) (l0_1 : List (S46)) (A1 : Option Addr) (c1 : Nat) (l1 : List (S49)) (A2 : Option Addr) (c2 : Nat) (l2 : List (S55)) (r : Bool) (w : World) (hr0_0 : Kd.C k84 w A0_0 l0_0.length l0_0) (hc0_0 : l0_0.length ≤ c0_0) (hr0_1 : Kd.C k46 w A0_1 l0_1.length l0_1) (hc0_1 : l0_1.length ≤ c0_1) (hr1 : Kd.C k49 w A1 l1.length l1) (hc1 : l1.length ≤ c1) (hr2 : Kd.C k55 w A2 l2.length l2) (hc2 : l2.length ≤ c2) (h : cohousinglaw26_usable.f k l0_0 l0_1 l1 l2 = some r) :
  Calls Try.prog 20 #[.agg #[.slice A0_0 l0_0.length c0_0, .slice A0_1 l0_1.length c0_1], .slice A1 l1.length c1, .slice A2 l2.length c2] w fun e w' => e = .returned (.bool r) ∧ Below w.heap.size w w' := by
 have hu25 := Try.underlying25
 have HR0_0 := Aside0.mk hr0_0
 have HC0_0 := Aside0.mk hc0_0
 clear hr0_0 hc0_0
 have HR0_1 := Aside0.mk hr0_1
 have HC0_1 := Aside0.mk hc0_1
 clear hr0_1 hc0_1
 have HR1 := Aside0.mk hr1
 have HC1 := Aside0.mk hc1
 clear hr1 hc1
 have HR2 := Aside0.mk hr2
 have HC2 := Aside0.mk hc2
 clear hr2 hc2
 have HB := Aside0.mk (Below.refl w.heap.size w)
 have H : ((cohousingref23_Few.f k l0_0 l0_1).bind fun t380 => (if t380 = true then ((cohousingref26_Few.f k l1 l2).bind fun t381 => (if t381 = true then ((cohousingref23_Valid.f k l0_0 l0_1).bind fun t382 => (if t382 = true then ((cohousingref26_Rings.f k l0_0 l0_1 l1).bind fun t383 => (if t383 = true then ((cohousingref26_Replies.f k l2).bind fun t384 => (some t384)) else (some false))) else (some false))) else (some false))) else (some false))) = some r := h
 clear h
 replace H := Option.bind_eq_some_iff.mp H
 obtain ⟨t380, A40, H⟩ := H
 replace H : (if t380 = true then ((cohousingref26_Few.f k l1 l2).bind fun t381 => (if t381 = true then ((cohousingref23_Valid.f k l0_0 l0_1).bind fun t382 => (if t382 = true then ((cohousingref26_Rings.f k l0_0 l0_1 l1).bind fun t383 => (if t383 = true then ((cohousingref26_Replies.f k l2).bind fun t384 => (some t384)) else (some false))) else (some false))) else (some false))) else (some false)) = some r := H
 have A4 := Aside0.mk A40
 clear A40
 by_cases c5 : t380 = true
 ·subst c5
  have H1 : ((cohousingref26_Few.f k l1 l2).bind fun t381 => (if t381 = true then ((cohousingref23_Valid.f k l0_0 l0_1).bind fun t382 => (if t382 = true then ((cohousingref26_Rings.f k l0_0 l0_1 l1).bind fun t383 => (if t383 = true then ((cohousingref26_Replies.f k l2).bind fun t384 => (some t384)) else (some false))) else (some false))) else (some false))) = some r := by rw [if_pos rfl] at H; exact H
  clear H
  have H := H1
  clear H1
  replace H := Option.bind_eq_some_iff.mp H
  obtain ⟨t381, A60, H⟩ := H
  replace H : (if t381 = true then ((cohousingref23_Valid.f k l0_0 l0_1).bind fun t382 => (if t382 = true then ((cohousingref26_Rings.f k l0_0 l0_1 l1).bind fun t383 => (if t383 = true then ((cohousingref26_Replies.f k l2).bind fun t384 => (some t384)) else (some false))) else (some false))) else (some false)) = some r := H
  have A6 := Aside0.mk A60
  clear A60
  by_cases c7 : t381 = true
  ·subst c7
   have H1 : ((cohousingref23_Valid.f k l0_0 l0_1).bind fun t382 => (if t382 = true then ((cohousingref26_Rings.f k l0_0 l0_1 l1).bind fun t383 => (if t383 = true then ((cohousingref26_Replies.f k l2).bind fun t384 => (some t384)) else (some false))) else (some false))) = some r := by rw [if_pos rfl] at H; exact H
   clear H
   have H := H1
   clear H1
   replace H := Option.bind_eq_some_iff.mp H
   obtain ⟨t382, A80, H⟩ := H
   replace H : (if t382 = true then ((cohousingref26_Rings.f k l0_0 l0_1 l1).bind fun t383 => (if t383 = true then ((cohousingref26_Replies.f k l2).bind fun t384 => (some t384)) else (some false))) else (some false)) = some r := H
   have A8 := Aside0.mk A80
   clear A80
   by_cases c9 : t382 = true
   ·subst c9
    have H1 : ((cohousingref26_Rings.f k l0_0 l0_1 l1).bind fun t383 => (if t383 = true then ((cohousingref26_Replies.f k l2).bind fun t384 => (some t384)) else (some false))) = some r := by rw [if_pos rfl] at H; exact H
    clear H
    have H := H1
    clear H1
    replace H := Option.bind_eq_some_iff.mp H
    obtain ⟨t383, A100, H⟩ := H
    replace H : (if t383 = true then ((cohousingref26_Replies.f k l2).bind fun t384 => (some t384)) else (some false)) = some r := H
    have A10 := Aside0.mk A100
    clear A100
    by_cases c11 : t383 = true
    ·subst c11
     have H1 : ((cohousingref26_Replies.f k l2).bind fun t384 => (some t384)) = some r := by rw [if_pos rfl] at H; exact H
     clear H
     have H := H1
     clear H1
     replace H := Option.bind_eq_some_iff.mp H
     obtain ⟨t384, A120, H⟩ := H
     replace H : (some t384) = some r := H
     have A12 := Aside0.mk A120
     clear A120
     obtain rfl := Option.some.inj H
     go_enter Try.func20, Try.ntmps20
     go_wp2_with (first | ((with_reducible refine gate_dst (N := 3) rfl ?_); refine box_event ?hg (N := 3) ?hd (cs := #[.slice A0_0 l0_0.length c0_0, .slice A0_1 l0_1.length c0_1]) (t := 25) ?hr ?_; (case hd => rfl); (case hg => rfl); (case hr => first | (go_simp; done) | (go_simp; rfl)); intro gb379 hg w13 hbox hb; have n0_ := Aside0.mk (below_step (bb_ HB) hb); have n1_ := Aside0.mk (hbox); have n2_ := Aside0.mk ((by rw [hg]; exact (below_size (bb_ HB)) : w.heap.size ≤ gb379)); have n3_ := Aside0.mk ((by rw [hg]; exact (below_size (bb_ HB)) : w.heap.size ≤ gb379)); clear HB; have HB := n0_; have BK379 := n1_; have GW379 := n2_; have GE379 := n3_; clear n0_ n1_ n2_ n3_; clear hb hbox hg; have hcz14_0 : w13.cell? ⟨gb379, 0, none⟩ = some (.slice A0_0 l0_0.length c0_0) := (blk_cell BK379.out 0).trans rfl; have hcz14_1 : w13.cell? ⟨gb379, 1, none⟩ = some (.slice A0_1 l0_1.length c0_1) := (blk_cell BK379.out 1).trans rfl; have hfz14_0 := blk_frozen BK379.out 0; have hfz14_1 := blk_frozen BK379.out 1) | ((with_reducible refine gate_callee (f := 11) rfl ?_); refine gl_ (some 8) Try.func11 #[.agg #[.slice A0_0 l0_0.length c0_0, .slice A0_1 l0_1.length c0_1]] ?_; (with_reducible refine (cohousingref23_Few.calls k _ _ l0_0 _ _ l0_1 true _ ?side1 ?side2 ?side3 ?side4 A4.out).mono ?_); (case side1 => exact cc_ ((Kd.C_below HR0_0.out HB.out))); (case side2 => exact HC0_0.out); (case side3 => exact cc_ ((Kd.C_below HR0_1.out HB.out))); (case side4 => exact HC0_1.out); rintro e w15 ⟨rfl, hb⟩; refine ⟨_, rfl, ?_⟩; have n0_ := Aside0.mk (blk_below (g := gb379) (o := .cells #[.slice A0_0 l0_0.length c0_0, .slice A0_1 l0_1.length c0_1] 25 (0, 0)) (kk_ BK379) hb); have n1_ := Aside0.mk (below_step (bs_ HB GE379.out) hb); clear BK379; clear HB; have BK379 := n0_; have HB := n1_; clear n0_ n1_; (try clear hb); (try clear hb2); (try clear hk); (try clear hi)) | (go_at_call 12; (with_reducible refine (cohousingref26_Few.calls k _ _ l1 _ _ l2 true _ ?side1 ?side2 ?side3 ?side4 A6.out).mono ?_); (case side1 => exact cc_ ((Kd.C_below HR1.out HB.out))); (case side2 => exact HC1.out); (case side3 => exact cc_ ((Kd.C_below HR2.out HB.out))); (case side4 => exact HC2.out); rintro e w' ⟨rfl, ⟨nd, rfl⟩⟩; have hcz16_0 : w15.cell? ⟨gb379, 0, none⟩ = some (.slice A0_0 l0_0.length c0_0) := (blk_cell BK379.out 0).trans rfl; have hcz16_1 : w15.cell? ⟨gb379, 1, none⟩ = some (.slice A0_1 l0_1.length c0_1) := (blk_cell BK379.out 1).trans rfl; have hfz16_0 := blk_frozen BK379.out 0; have hfz16_1 := blk_frozen BK379.out 1) | (go_at_call 25; (with_reducible refine (cohousingref23_Valid.calls k _ _ l0_0 _ _ l0_1 true _ ?side1 ?side2 ?side3 ?side4 A8.out).mono ?_); (case side1 => exact cc_ ((Kd.C_below HR0_0.out (bs_ HB GE379.out)))); (case side2 => exact HC0_0.out); (case side3 => exact cc_ ((Kd.C_below HR0_1.out (bs_ HB GE379.out)))); (case side4 => exact HC0_1.out); rintro e w17 ⟨rfl, hb⟩; have n0_ := Aside0.mk (blk_below (g := gb379) (o := .cells #[.slice A0_0 l0_0.length c0_0, .slice A0_1 l0_1.length c0_1] 25 (0, 0)) (kk_ BK379) hb); have n1_ := Aside0.mk (below_step (bs_ HB GE379.out) hb); clear BK379; clear HB; have BK379 := n0_; have HB := n1_; clear n0_ n1_; (try clear hb); (try clear hb2); (try clear hk); (try clear hi); have hcz18_0 : w17.cell? ⟨gb379, 0, none⟩ = some (.slice A0_0 l0_0.length c0_0) := (blk_cell BK379.out 0).trans rfl; have hcz18_1 : w17.cell? ⟨gb379, 1, none⟩ = some (.slice A0_1 l0_1.length c0_1) := (blk_cell BK379.out 1).trans rfl; have hfz18_0 := blk_frozen BK379.out 0; have hfz18_1 := blk_frozen BK379.out 1) | (go_at_call 35; (with_reducible refine (cohousingref26_Rings.calls k _ _ l0_0 _ _ l0_1 _ _ l1 true _ ?side1 ?side2 ?side3 ?side4 ?side5 ?side6 A10.out).mono ?_); (case side1 => exact cc_ ((Kd.C_below HR0_0.out HB.out))); (case side2 => exact HC0_0.out); (case side3 => exact cc_ ((Kd.C_below HR0_1.out HB.out))); (case side4 => exact HC0_1.out); (case side5 => exact cc_ ((Kd.C_below HR1.out HB.out))); (case side6 => exact HC1.out); rintro e w19 ⟨rfl, hb⟩; have n0_ := Aside0.mk (blk_below (g := gb379) (o := .cells #[.slice A0_0 l0_0.length c0_0, .slice A0_1 l0_1.length c0_1] 25 (0, 0)) (kk_ BK379) hb); have n1_ := Aside0.mk (below_step (bs_ HB GE379.out) hb); clear BK379; clear HB; have BK379 := n0_; have HB := n1_; clear n0_ n1_; (try clear hb); (try clear hb2); (try clear hk); (try clear hi)) | (go_at_call 36; (with_reducible refine (cohousingref26_Replies.calls k _ _ l2 t384 _ ?side1 ?side2 A12.out).mono ?_); (case side1 => exact cc_ ((Kd.C_below HR2.out HB.out))); (case side2 => exact HC2.out); rintro e w20 ⟨rfl, hb⟩; have n0_ := Aside0.mk (blk_below (g := gb379) (o := .cells #[.slice A0_0 l0_0.length c0_0, .slice A0_1 l0_1.length c0_1] 25 (0, 0)) (kk_ BK379) hb); have n1_ := Aside0.mk (below_step (bs_ HB GE379.out) hb); clear BK379; clear HB; have BK379 := n0_; have HB := n1_; clear n0_ n1_; (try clear hb); (try clear hb2); (try clear hk); (try clear hi)))
     go_ret
     exact ⟨ew_, by repeat (first | (with_reducible first | exact HB.out | apply below_alloc | apply pw_below_drewN | apply below_drew1 | refine below_set ?_ GE379.out) | exact HB.out)⟩
    ·replace c11 := Bool.eq_false_iff.mpr c11
     subst c11
     have H1 : (some false) = some r := by rw [if_neg (show ¬ (false = true) by decide)] at H; exact H
     clear H
     have H := H1
     clear H1
     obtain rfl := Option.some.inj H
     go_enter Try.func20, Try.ntmps20
     go_wp2_with (first | ((with_reducible refine gate_dst (N := 3) rfl ?_); refine box_event ?hg (N := 3) ?hd (cs := #[.slice A0_0 l0_0.length c0_0, .slice A0_1 l0_1.length c0_1]) (t := 25) ?hr ?_; (case hd => rfl); (case hg => rfl); (case hr => first | (go_simp; done) | (go_simp; rfl)); intro gb379 hg w21 hbox hb; have n0_ := Aside0.mk (below_step (bb_ HB) hb); have n1_ := Aside0.mk (hbox); have n2_ := Aside0.mk ((by rw [hg]; exact (below_size (bb_ HB)) : w.heap.size ≤ gb379)); have n3_ := Aside0.mk ((by rw [hg]; exact (below_size (bb_ HB)) : w.heap.size ≤ gb379)); clear HB; have HB := n0_; have BK379 := n1_; have GW379 := n2_; have GE379 := n3_; clear n0_ n1_ n2_ n3_; clear hb hbox hg; have hcz22_0 : w21.cell? ⟨gb379, 0, none⟩ = some (.slice A0_0 l0_0.length c0_0) := (blk_cell BK379.out 0).trans rfl; have hcz22_1 : w21.cell? ⟨gb379, 1, none⟩ = some (.slice A0_1 l0_1.length c0_1) := (blk_cell BK379.out 1).trans rfl; have hfz22_0 := blk_frozen BK379.out 0; have hfz22_1 := blk_frozen BK379.out 1) | ((with_reducible refine gate_callee (f := 11) rfl ?_); refine gl_ (some 8) Try.func11 #[.agg #[.slice A0_0 l0_0.length c0_0, .slice A0_1 l0_1.length c0_1]] ?_; (with_reducible refine (cohousingref23_Few.calls k _ _ l0_0 _ _ l0_1 true _ ?side1 ?side2 ?side3 ?side4 A4.out).mono ?_); (case side1 => exact cc_ ((Kd.C_below HR0_0.out HB.out))); (case side2 => exact HC0_0.out); (case side3 => exact cc_ ((Kd.C_below HR0_1.out HB.out))); (case side4 => exact HC0_1.out); rintro e w23 ⟨rfl, hb⟩; refine ⟨_, rfl, ?_⟩; have n0_ := Aside0.mk (blk_below (g := gb379) (o := .cells #[.slice A0_0 l0_0.length c0_0, .slice A0_1 l0_1.length c0_1] 25 (0, 0)) (kk_ BK379) hb); have n1_ := Aside0.mk (below_step (bs_ HB GE379.out) hb); clear BK379; clear HB; have BK379 := n0_; have HB := n1_; clear n0_ n1_; (try clear hb); (try clear hb2); (try clear hk); (try clear hi)) | (go_at_call 12; (with_reducible refine (cohousingref26_Few.calls k _ _ l1 _ _ l2 true _ ?side1 ?side2 ?side3 ?side4 A6.out).mono ?_); (case side1 => exact cc_ ((Kd.C_below HR1.out HB.out))); (case side2 => exact HC1.out); (case side3 => exact cc_ ((Kd.C_below HR2.out HB.out))); (case side4 => exact HC2.out); rintro e w' ⟨rfl, ⟨nd, rfl⟩⟩; have hcz24_0 : w23.cell? ⟨gb379, 0, none⟩ = some (.slice A0_0 l0_0.length c0_0) := (blk_cell BK379.out 0).trans rfl; have hcz24_1 : w23.cell? ⟨gb379, 1, none⟩ = some (.slice A0_1 l0_1.length c0_1) := (blk_cell BK379.out 1).trans rfl; have hfz24_0 := blk_frozen BK379.out 0; have hfz24_1 := blk_frozen BK379.out 1) | (go_at_call 25; (with_reducible refine (cohousingref23_Valid.calls k _ _ l0_0 _ _ l0_1 true _ ?side1 ?side2 ?side3 ?side4 A8.out).mono ?_); (case side1 => exact cc_ ((Kd.C_below HR0_0.out (bs_ HB GE379.out)))); (case side2 => exact HC0_0.out); (case side3 => exact cc_ ((Kd.C_below HR0_1.out (bs_ HB GE379.out)))); (case side4 => exact HC0_1.out); rintro e w25 ⟨rfl, hb⟩; have n0_ := Aside0.mk (blk_below (g := gb379) (o := .cells #[.slice A0_0 l0_0.length c0_0, .slice A0_1 l0_1.length c0_1] 25 (0, 0)) (kk_ BK379) hb); have n1_ := Aside0.mk (below_step (bs_ HB GE379.out) hb); clear BK379; clear HB; have BK379 := n0_; have HB := n1_; clear n0_ n1_; (try clear hb); (try clear hb2); (try clear hk); (try clear hi); have hcz26_0 : w25.cell? ⟨gb379, 0, none⟩ = some (.slice A0_0 l0_0.length c0_0) := (blk_cell BK379.out 0).trans rfl; have hcz26_1 : w25.cell? ⟨gb379, 1, none⟩ = some (.slice A0_1 l0_1.length c0_1) := (blk_cell BK379.out 1).trans rfl; have hfz26_0 := blk_frozen BK379.out 0; have hfz26_1 := blk_frozen BK379.out 1) | (go_at_call 35; (with_reducible refine (cohousingref26_Rings.calls k _ _ l0_0 _ _ l0_1 _ _ l1 false _ ?side1 ?side2 ?side3 ?side4 ?side5 ?side6 A10.out).mono ?_); (case side1 => exact cc_ ((Kd.C_below HR0_0.out HB.out))); (case side2 => exact HC0_0.out); (case side3 => exact cc_ ((Kd.C_below HR0_1.out HB.out))); (case side4 => exact HC0_1.out); (case side5 => exact cc_ ((Kd.C_below HR1.out HB.out))); (case side6 => exact HC1.out); rintro e w27 ⟨rfl, hb⟩; have n0_ := Aside0.mk (blk_below (g := gb379) (o := .cells #[.slice A0_0 l0_0.length c0_0, .slice A0_1 l0_1.length c0_1] 25 (0, 0)) (kk_ BK379) hb); have n1_ := Aside0.mk (below_step (bs_ HB GE379.out) hb); clear BK379; clear HB; have BK379 := n0_; have HB := n1_; clear n0_ n1_; (try clear hb); (try clear hb2); (try clear hk); (try clear hi)))
     go_ret
     exact ⟨ew_, by repeat (first | (with_reducible first | exact HB.out | apply below_alloc | apply pw_below_drewN | apply below_drew1 | refine below_set ?_ GE379.out) | exact HB.out)⟩
   ·replace c9 := Bool.eq_false_iff.mpr c9
    subst c9
    have H1 : (some false) = some r := by rw [if_neg (show ¬ (false = true) by decide)] at H; exact H
    clear H
    have H := H1
    clear H1
    obtain rfl := Option.some.inj H
    go_enter Try.func20, Try.ntmps20
    go_wp2_with (first | ((with_reducible refine gate_dst (N := 3) rfl ?_); refine box_event ?hg (N := 3) ?hd (cs := #[.slice A0_0 l0_0.length c0_0, .slice A0_1 l0_1.length c0_1]) (t := 25) ?hr ?_; (case hd => rfl); (case hg => rfl); (case hr => first | (go_simp; done) | (go_simp; rfl)); intro gb379 hg w28 hbox hb; have n0_ := Aside0.mk (below_step (bb_ HB) hb); have n1_ := Aside0.mk (hbox); have n2_ := Aside0.mk ((by rw [hg]; exact (below_size (bb_ HB)) : w.heap.size ≤ gb379)); have n3_ := Aside0.mk ((by rw [hg]; exact (below_size (bb_ HB)) : w.heap.size ≤ gb379)); clear HB; have HB := n0_; have BK379 := n1_; have GW379 := n2_; have GE379 := n3_; clear n0_ n1_ n2_ n3_; clear hb hbox hg; have hcz29_0 : w28.cell? ⟨gb379, 0, none⟩ = some (.slice A0_0 l0_0.length c0_0) := (blk_cell BK379.out 0).trans rfl; have hcz29_1 : w28.cell? ⟨gb379, 1, none⟩ = some (.slice A0_1 l0_1.length c0_1) := (blk_cell BK379.out 1).trans rfl; have hfz29_0 := blk_frozen BK379.out 0; have hfz29_1 := blk_frozen BK379.out 1) | ((with_reducible refine gate_callee (f := 11) rfl ?_); refine gl_ (some 8) Try.func11 #[.agg #[.slice A0_0 l0_0.length c0_0, .slice A0_1 l0_1.length c0_1]] ?_; (with_reducible refine (cohousingref23_Few.calls k _ _ l0_0 _ _ l0_1 true _ ?side1 ?side2 ?side3 ?side4 A4.out).mono ?_); (case side1 => exact cc_ ((Kd.C_below HR0_0.out HB.out))); (case side2 => exact HC0_0.out); (case side3 => exact cc_ ((Kd.C_below HR0_1.out HB.out))); (case side4 => exact HC0_1.out); rintro e w30 ⟨rfl, hb⟩; refine ⟨_, rfl, ?_⟩; have n0_ := Aside0.mk (blk_below (g := gb379) (o := .cells #[.slice A0_0 l0_0.length c0_0, .slice A0_1 l0_1.length c0_1] 25 (0, 0)) (kk_ BK379) hb); have n1_ := Aside0.mk (below_step (bs_ HB GE379.out) hb); clear BK379; clear HB; have BK379 := n0_; have HB := n1_; clear n0_ n1_; (try clear hb); (try clear hb2); (try clear hk); (try clear hi)) | (go_at_call 12; (with_reducible refine (cohousingref26_Few.calls k _ _ l1 _ _ l2 true _ ?side1 ?side2 ?side3 ?side4 A6.out).mono ?_); (case side1 => exact cc_ ((Kd.C_below HR1.out HB.out))); (case side2 => exact HC1.out); (case side3 => exact cc_ ((Kd.C_below HR2.out HB.out))); (case side4 => exact HC2.out); rintro e w' ⟨rfl, ⟨nd, rfl⟩⟩; have hcz31_0 : w30.cell? ⟨gb379, 0, none⟩ = some (.slice A0_0 l0_0.length c0_0) := (blk_cell BK379.out 0).trans rfl; have hcz31_1 : w30.cell? ⟨gb379, 1, none⟩ = some (.slice A0_1 l0_1.length c0_1) := (blk_cell BK379.out 1).trans rfl; have hfz31_0 := blk_frozen BK379.out 0; have hfz31_1 := blk_frozen BK379.out 1) | (go_at_call 25; (with_reducible refine (cohousingref23_Valid.calls k _ _ l0_0 _ _ l0_1 false _ ?side1 ?side2 ?side3 ?side4 A8.out).mono ?_); (case side1 => exact cc_ ((Kd.C_below HR0_0.out (bs_ HB GE379.out)))); (case side2 => exact HC0_0.out); (case side3 => exact cc_ ((Kd.C_below HR0_1.out (bs_ HB GE379.out)))); (case side4 => exact HC0_1.out); rintro e w32 ⟨rfl, hb⟩; have n0_ := Aside0.mk (blk_below (g := gb379) (o := .cells #[.slice A0_0 l0_0.length c0_0, .slice A0_1 l0_1.length c0_1] 25 (0, 0)) (kk_ BK379) hb); have n1_ := Aside0.mk (below_step (bs_ HB GE379.out) hb); clear BK379; clear HB; have BK379 := n0_; have HB := n1_; clear n0_ n1_; (try clear hb); (try clear hb2); (try clear hk); (try clear hi)))
    go_ret
    exact ⟨ew_, by repeat (first | (with_reducible first | exact HB.out | apply below_alloc | apply pw_below_drewN | apply below_drew1 | refine below_set ?_ GE379.out) | exact HB.out)⟩
  ·replace c7 := Bool.eq_false_iff.mpr c7
   subst c7
   have H1 : (some false) = some r := by rw [if_neg (show ¬ (false = true) by decide)] at H; exact H
   clear H
   have H := H1
   clear H1
   obtain rfl := Option.some.inj H
   go_enter Try.func20, Try.ntmps20
   go_wp2_with (first | ((with_reducible refine gate_dst (N := 3) rfl ?_); refine box_event ?hg (N := 3) ?hd (cs := #[.slice A0_0 l0_0.length c0_0, .slice A0_1 l0_1.length c0_1]) (t := 25) ?hr ?_; (case hd => rfl); (case hg => rfl); (case hr => first | (go_simp; done) | (go_simp; rfl)); intro gb379 hg w33 hbox hb; have n0_ := Aside0.mk (below_step (bb_ HB) hb); have n1_ := Aside0.mk (hbox); have n2_ := Aside0.mk ((by rw [hg]; exact (below_size (bb_ HB)) : w.heap.size ≤ gb379)); have n3_ := Aside0.mk ((by rw [hg]; exact (below_size (bb_ HB)) : w.heap.size ≤ gb379)); clear HB; have HB := n0_; have BK379 := n1_; have GW379 := n2_; have GE379 := n3_; clear n0_ n1_ n2_ n3_; clear hb hbox hg; have hcz34_0 : w33.cell? ⟨gb379, 0, none⟩ = some (.slice A0_0 l0_0.length c0_0) := (blk_cell BK379.out 0).trans rfl; have hcz34_1 : w33.cell? ⟨gb379, 1, none⟩ = some (.slice A0_1 l0_1.length c0_1) := (blk_cell BK379.out 1).trans rfl; have hfz34_0 := blk_frozen BK379.out 0; have hfz34_1 := blk_frozen BK379.out 1) | ((with_reducible refine gate_callee (f := 11) rfl ?_); refine gl_ (some 8) Try.func11 #[.agg #[.slice A0_0 l0_0.length c0_0, .slice A0_1 l0_1.length c0_1]] ?_; (with_reducible refine (cohousingref23_Few.calls k _ _ l0_0 _ _ l0_1 true _ ?side1 ?side2 ?side3 ?side4 A4.out).mono ?_); (case side1 => exact cc_ ((Kd.C_below HR0_0.out HB.out))); (case side2 => exact HC0_0.out); (case side3 => exact cc_ ((Kd.C_below HR0_1.out HB.out))); (case side4 => exact HC0_1.out); rintro e w35 ⟨rfl, hb⟩; refine ⟨_, rfl, ?_⟩; have n0_ := Aside0.mk (blk_below (g := gb379) (o := .cells #[.slice A0_0 l0_0.length c0_0, .slice A0_1 l0_1.length c0_1] 25 (0, 0)) (kk_ BK379) hb); have n1_ := Aside0.mk (below_step (bs_ HB GE379.out) hb); clear BK379; clear HB; have BK379 := n0_; have HB := n1_; clear n0_ n1_; (try clear hb); (try clear hb2); (try clear hk); (try clear hi)) | (go_at_call 12; (with_reducible refine (cohousingref26_Few.calls k _ _ l1 _ _ l2 false _ ?side1 ?side2 ?side3 ?side4 A6.out).mono ?_); (case side1 => exact cc_ ((Kd.C_below HR1.out HB.out))); (case side2 => exact HC1.out); (case side3 => exact cc_ ((Kd.C_below HR2.out HB.out))); (case side4 => exact HC2.out); rintro e w' ⟨rfl, ⟨nd, rfl⟩⟩))
   go_ret
   exact ⟨ew_, by repeat (first | (with_reducible first | exact HB.out | apply below_alloc | apply pw_below_drewN | apply below_drew1 | refine below_set ?_ GE379.out) | exact HB.out)⟩
 ·replace c5 := Bool.eq_false_iff.mpr c5
  subst c5
  have H1 : (some false) = some r := by rw [if_neg (show ¬ (false = true) by decide)] at H; exact H
  clear H
  have H := H1
  clear H1
  obtain rfl := Option.some.inj H
  go_enter Try.func20, Try.ntmps20
  go_wp2_with (first | ((with_reducible refine gate_dst (N := 3) rfl ?_); refine box_event ?hg (N := 3) ?hd (cs := #[.slice A0_0 l0_0.length c0_0, .slice A0_1 l0_1.length c0_1]) (t := 25) ?hr ?_; (case hd => rfl); (case hg => rfl); (case hr => first | (go_simp; done) | (go_simp; rfl)); intro gb379 hg w36 hbox hb; have n0_ := Aside0.mk (below_step (bb_ HB) hb); have n1_ := Aside0.mk (hbox); have n2_ := Aside0.mk ((by rw [hg]; exact (below_size (bb_ HB)) : w.heap.size ≤ gb379)); have n3_ := Aside0.mk ((by rw [hg]; exact (below_size (bb_ HB)) : w.heap.size ≤ gb379)); clear HB; have HB := n0_; have BK379 := n1_; have GW379 := n2_; have GE379 := n3_; clear n0_ n1_ n2_ n3_; clear hb hbox hg; have hcz37_0 : w36.cell? ⟨gb379, 0, none⟩ = some (.slice A0_0 l0_0.length c0_0) := (blk_cell BK379.out 0).trans rfl; have hcz37_1 : w36.cell? ⟨gb379, 1, none⟩ = some (.slice A0_1 l0_1.length c0_1) := (blk_cell BK379.out 1).trans rfl; have hfz37_0 := blk_frozen BK379.out 0; have hfz37_1 := blk_frozen BK379.out 1) | ((with_reducible refine gate_callee (f := 11) rfl ?_); refine gl_ (some 8) Try.func11 #[.agg #[.slice A0_0 l0_0.length c0_0, .slice A0_1 l0_1.length c0_1]] ?_; (with_reducible refine (cohousingref23_Few.calls k _ _ l0_0 _ _ l0_1 false _ ?side1 ?side2 ?side3 ?side4 A4.out).mono ?_); (case side1 => exact cc_ ((Kd.C_below HR0_0.out HB.out))); (case side2 => exact HC0_0.out); (case side3 => exact cc_ ((Kd.C_below HR0_1.out HB.out))); (case side4 => exact HC0_1.out); rintro e w38 ⟨rfl, hb⟩; refine ⟨_, rfl, ?_⟩; have n0_ := Aside0.mk (blk_below (g := gb379) (o := .cells #[.slice A0_0 l0_0.length c0_0, .slice A0_1 l0_1.length c0_1] 25 (0, 0)) (kk_ BK379) hb); have n1_ := Aside0.mk (below_step (bs_ HB GE379.out) hb); clear BK379; clear HB; have BK379 := n0_; have HB := n1_; clear n0_ n1_; (try clear hb); (try clear hb2); (try clear hk); (try clear hi)))
  go_ret
  exact ⟨ew_, by repeat (first | (with_reducible first | exact HB.out | apply below_alloc | apply pw_below_drewN | apply below_drew1 | refine below_set ?_ GE379.out) | exact HB.out)⟩
end
section
def cohousinglaw26_on.f (a0 : Int) : Option (Int) := some (Int.tmod (wrap64 (a0)) 36525)
theorem cohousinglaw26_on.calls (a0 : Int) (r : Int) (w : World) (h : cohousinglaw26_on.f a0 = some r) :
  Calls Try.prog 21 #[.int .u16 a0] w fun e w' => e = .returned (.int .i64 r) ∧ Drawn0 w w' := by
 have H : (some (Int.tmod (wrap64 (a0)) 36525)) = some r := h
 clear h
 obtain rfl := Option.some.inj H
 go_enter Try.func21, Try.ntmps21
 go_wp2
 go_ret
 exact ⟨by first | rfl | (simp; done) | (simp [*]; done), by repeat (first | exact Drawn0.refl _ | apply Drawn0.step)⟩
end
end Go.Proofs.Ytocbiggglnpeoaa.P
end
section
namespace Go.Proofs.Ytocbiggglnpeoaa.P
open Go.RowKit Go.Proofs.YtocbiggglnpeoaaW.PrintWords Go.Proofs.YtocbiggglnpeoaaW.PrintLast Go.Proofs.YtocbiggglnpeoaaW.PrintMore Go.Proofs.YtocbiggglnpeoaaH
open Classical
def Ev {α : Type} (f : Nat → Option α) (r : α) : Prop := ∃ k0, ∀ k, k0 ≤ k → f k = some r
theorem Ev.step {α : Type} {f : Nat → Option α} {r : α} (h : Ev (fun k => f (k + 1)) r) : Ev f r := by
 obtain ⟨k0, hk⟩ := h
 refine ⟨k0 + 1, fun k h1 => ?_⟩
 obtain ⟨m, rfl⟩ : ∃ m, k = m + 1 := ⟨k - 1, by omega⟩
 exact hk m (by omega)
theorem Ev.pure {α : Type} (r : α) : Ev (fun _ => some r) r := ⟨0, fun _ _ => rfl⟩
theorem Ev.bnd {α β : Type} {f : Nat → Option β} {g : β → Nat → Option α} {b : β} {r : α} (hf : Ev f b) (hg : Ev (g b) r) : Ev (fun k => (f k).bind fun t => g t k) r := by
 obtain ⟨k0, h0⟩ := hf
 obtain ⟨k1, h1⟩ := hg
 refine ⟨max k0 k1, fun k hk => ?_⟩
 show (f k).bind _ = _
 rw [h0 k (by omega)]
 exact h1 k (by omega)
theorem Ev.congr {α : Type} {f g : Nat → Option α} {r : α} (h : ∀ k, f k = g k) (hg : Ev g r) : Ev f r := by
 obtain ⟨k0, hk⟩ := hg
 exact ⟨k0, fun k h1 => by rw [h k]; exact hk k h1⟩
theorem Ev.of_mono {α : Type} {f : Nat → Option α} {r : α} (k0 : Nat) (h0 : f k0 = some r) (h : ∀ k, LeO (f k) (f (k + 1))) : Ev f r := by
 refine ⟨k0, fun k hk => ?_⟩
 obtain ⟨d, rfl⟩ : ∃ d, k = k0 + d := ⟨k - k0, by omega⟩
 induction d with
 | zero => exact h0
 | succ d ih => exact h _ _ (ih (by omega))
theorem wrap_nat {i : Nat} (h : i ≤ 140737488355328) : wrap64 ((i : Int) + 1) = ((i + 1 : Nat) : Int) := by unfold wrap64; omega
abbrev FT := S84
abbrev PT := S46
abbrev MT := S51
abbrev GT := S49
abbrev YT := S55
abbrev fid (l : List FT) (i : Nat) : Int := (rd_T84 l (i : Int)).f0
abbrev pid (l : List PT) (i : Nat) : Int := (rd_T46 l (i : Int)).f0
abbrev pfl (l : List PT) (i : Nat) : Int := (rd_T46 l (i : Int)).f1
abbrev pwt (l : List PT) (i : Nat) : List Int := (rd_T46 l (i : Int)).f2
abbrev mv (l : List MT) (i : Nat) : MT := rd_T51 l (i : Int)
abbrev rg (l : List GT) (i : Nat) : GT := rd_T49 l (i : Int)
abbrev ry (l : List YT) (i : Nat) : YT := rd_T55 l (i : Int)
theorem pa_get (l : List PT) (j : Nat) (h : j < l.length) : rd_T46 l (j : Int) = l[j] := by simp [rd_T46, List.getD_eq_getElem?_getD, h]
theorem mv_get (l : List MT) (j : Nat) (h : j < l.length) : mv l j = l[j] := by simp [mv, rd_T51, List.getD_eq_getElem?_getD, h]
theorem rg_get (l : List GT) (j : Nat) (h : j < l.length) : rg l j = l[j] := by simp [rg, rd_T49, List.getD_eq_getElem?_getD, h]
theorem ry_get (l : List YT) (j : Nat) (h : j < l.length) : ry l j = l[j] := by simp [ry, rd_T55, List.getD_eq_getElem?_getD, h]
theorem rd_get (l : List Int) (j : Nat) (h : j < l.length) : rd l (j : Int) = l[j] := by simp [rd, List.getD_eq_getElem?_getD, h]
theorem asc_adj (g : Nat → Int) (q : Int) (m : Nat) : (∀ n, n < m → (if n = 0 then q else g (n - 1)) < g n) ↔ (∀ n, n < m → q < g n) ∧ (∀ i j, i < j → j < m → g i < g j) := by
 constructor
 ·intro h
  have h2 : ∀ i d, i + d + 1 < m → g i < g (i + d + 1) := by
   intro i d
   induction d with
   | zero => intro hm; have := h (i + 1) hm; rwa [if_neg (by omega)] at this
   | succ d ih =>
    intro hm
    have h1 := ih (by omega)
    have h3 := h (i + (d + 1) + 1) hm
    rw [if_neg (by omega), show i + (d + 1) + 1 - 1 = i + d + 1 by omega] at h3
    omega
  have h1 : ∀ i j, i < j → j < m → g i < g j := fun i j hij hj => by
   have := h2 i (j - i - 1) (by omega)
   rwa [show i + (j - i - 1) + 1 = j by omega] at this
  refine ⟨fun n hn => ?_, h1⟩
  have h0 := h 0 (by omega)
  rw [if_pos rfl] at h0
  by_cases e : n = 0
  ·subst e; exact h0
  ·have := h1 0 n (by omega) hn; omega
 ·rintro ⟨h1, h2⟩ n hn
  by_cases e : n = 0
  ·rw [if_pos e]; exact h1 n hn
  ·rw [if_neg e]; exact h2 (n - 1) n (by omega) hn
theorem foldM_key {α : Type} (g : Int → α) (ks : Nat → Int) (k : Int) : ∀ n, foldM ks (fun j => g (ks j)) n k = if ∃ j, j < n ∧ ks j = k then some (g k) else none
 | 0 => by rw [if_neg (fun ⟨j, hj, _⟩ => absurd hj (Nat.not_lt_zero _))]; rfl
 | n + 1 => by
  rw [foldM_succ]
  unfold upd
  by_cases h : k = ks n
  ·rw [if_pos h, if_pos ⟨n, by omega, h.symm⟩, h]
  ·rw [if_neg h, foldM_key g ks k n]
   by_cases h2 : ∃ j, j < n ∧ ks j = k
   ·obtain ⟨j, hj, e⟩ := h2
    rw [if_pos ⟨j, hj, e⟩, if_pos ⟨j, by omega, e⟩]
   ·rw [if_neg h2, if_neg]
    rintro ⟨j, hj, e⟩
    rcases Nat.lt_succ_iff_lt_or_eq.1 hj with h' | h'
    ·exact h2 ⟨j, h', e⟩
    ·subst h'; exact h e.symm
theorem foldM_const {α : Type} (v : α) (ks : Nat → Int) (k : Int) (n : Nat) : foldM ks (fun _ => v) n k = if ∃ j, j < n ∧ ks j = k then some v else none := foldM_key (fun _ => v) ks k n
theorem foldM_inj {α : Type} (ks : Nat → Int) (vs : Nat → α) : ∀ n, (∀ i j, i < j → j < n → ks i ≠ ks j) → ∀ j, j < n → foldM ks vs n (ks j) = some (vs j)
 | 0 => fun _ j hj => absurd hj (Nat.not_lt_zero _)
 | n + 1 => fun h j hj => by
  rw [foldM_succ]
  unfold upd
  by_cases e : j = n
  ·subst e; rw [if_pos rfl]
  ·rw [if_neg (h j n (by omega) (by omega))]
   exact foldM_inj ks vs n (fun i j h1 h2 => h i j h1 (by omega)) j (by omega)
theorem foldM_has {α : Type} (ks : Nat → Int) (vs : Nat → α) (k : Int) (v : α) : ∀ n, foldM ks vs n k = some v → ∃ j, j < n ∧ ks j = k ∧ vs j = v
 | 0 => fun h => by cases h
 | n + 1 => fun h => by
  rw [foldM_succ] at h
  unfold upd at h
  by_cases e : k = ks n
  ·rw [if_pos e] at h
   exact ⟨n, by omega, e.symm, Option.some.inj h⟩
  ·rw [if_neg e] at h
   obtain ⟨j, hj, h1, h2⟩ := foldM_has ks vs k v n h
   exact ⟨j, by omega, h1, h2⟩
theorem foldM_no {α : Type} (ks : Nat → Int) (vs : Nat → α) (k : Int) (n : Nat) (h : foldM ks vs n k = none) : ∀ j, j < n → ks j ≠ k := fun j hj e => by
 have := (foldM_isSome ks vs k n).2 ⟨j, hj, e⟩
 rw [h] at this
 cases this
def HasF (fl : List FT) (x : Int) : Prop := ∃ j, j < fl.length ∧ fid fl j = x
structure FlatsV (fl : List FT) : Prop where
 asc : ∀ i j, i < j → j < fl.length → fid fl i < fid fl j
 rng : ∀ i, i < fl.length → 1 ≤ fid fl i ∧ fid fl i ≤ 64 ∧ 1 ≤ (rd_T84 fl (i : Int)).f1 ∧ (rd_T84 fl (i : Int)).f1 ≤ 10
theorem flatsOk_iff (fl : List FT) : flatsOk fl = true ↔ FlatsV fl := by
 have h := asc_adj (fid fl) 0 fl.length
 have e : ∀ n, (if n = 0 then (0 : Int) else fid fl (n - 1)) = lastF fl n := fun n => rfl
 simp only [e] at h
 unfold flatsOk flatAt
 simp only [List.all_eq_true, List.mem_range, decide_eq_true_iff]
 constructor
 ·intro hh
  obtain ⟨h1, h2⟩ := h.1 (fun n hn => (hh n hn).1)
  exact ⟨h2, fun i hi => ⟨by have := h1 i hi; omega, (hh i hi).2⟩⟩
 ·intro hv n hn
  exact ⟨h.2 ⟨fun n hn => by have := (hv.rng n hn).1; omega, hv.asc⟩ n hn, (hv.rng n hn).2⟩
theorem asc_count (g : Nat → Int) (m : Nat) (h1 : ∀ i, i < m → 1 ≤ g i) (h2 : ∀ i j, i < j → j < m → g i < g j) : ∀ i, i < m → (i : Int) + 1 ≤ g i := by
 intro i
 induction i with
 | zero => intro h; have := h1 0 h; omega
 | succ i ih => intro h; have := ih (by omega); have := h2 i (i + 1) (by omega) h; omega
theorem FlatsV.len {fl : List FT} (h : FlatsV fl) : fl.length ≤ 64 := by
 rcases Nat.eq_zero_or_pos fl.length with e | e
 ·omega
 ·have h1 := asc_count (fid fl) fl.length (fun i hi => (h.rng i hi).1) h.asc (fl.length - 1) (by omega)
  have h2 := (h.rng (fl.length - 1) (by omega)).2.1
  omega
structure Market (fl : List FT) (pa : List PT) : Prop where
 flv : FlatsV fl
 asc : ∀ i j, i < j → j < pa.length → pid pa i < pid pa j
 rng : ∀ i, i < pa.length → 1 ≤ pid pa i ∧ pid pa i ≤ 64
 own : ∀ i, i < pa.length → pfl pa i ≠ 0 → HasF fl (pfl pa i)
 dis : ∀ i j, i < j → j < pa.length → pfl pa j ≠ 0 → pfl pa i ≠ pfl pa j
 wnt : ∀ i, i < pa.length → ∀ k, k < (pwt pa i).length → HasF fl (rd (pwt pa i) (k : Int))
 wdis : ∀ i, i < pa.length → ∀ j k, j < k → k < (pwt pa i).length → rd (pwt pa i) (j : Int) ≠ rd (pwt pa i) (k : Int)
theorem rooms_iff {fl : List FT} (h : FlatsV fl) (x : Int) : (roomsM fl fl.length x).getD 0 ≠ 0 ↔ HasF fl x := by
 unfold roomsM
 constructor
 ·intro hh
  cases hx : foldM (fun j : Nat => (rd_T84 fl (j : Int)).f0) (fun j : Nat => (rd_T84 fl (j : Int)).f1) fl.length x with
  | none => rw [hx] at hh; exact absurd rfl hh
  | some v =>
   obtain ⟨j, hj, e, _⟩ := foldM_has _ _ _ _ _ hx
   exact ⟨j, hj, e⟩
 ·rintro ⟨j, hj, rfl⟩
  rw [foldM_inj (fun j : Nat => (rd_T84 fl (j : Int)).f0) _ fl.length (fun i j h1 h2 => Int.ne_of_lt (h.asc i j h1 h2)) j hj]
  have := (h.rng j hj).2.2.1
  show (rd_T84 fl (j : Int)).f1 ≠ 0
  omega
theorem getD_ite {c : Prop} [Decidable c] : ((if c then some true else none : Option Bool).getD false) = decide c := by
 by_cases h : c <;> simp [h]
theorem marketOk_iff (fl : List FT) (pa : List PT) : marketOk fl pa = true ↔ Market fl pa := by
 have ha := asc_adj (pid pa) 0 pa.length
 have e : ∀ n, (if n = 0 then (0 : Int) else pid pa (n - 1)) = lastP pa n := fun n => rfl
 simp only [e] at ha
 have hw : FlatsV fl → ∀ l : List Int, (wantsOk (roomsM fl fl.length) l = true ↔ (∀ k, k < l.length → HasF fl (rd l (k : Int))) ∧ (∀ j k, j < k → k < l.length → rd l (j : Int) ≠ rd l (k : Int))) := by
  intro hf l
  unfold wantsOk wantAt seenM
  simp only [List.all_eq_true, List.mem_range, Bool.and_eq_true, decide_eq_true_iff, Bool.not_eq_true', foldM_const, getD_ite, decide_eq_false_iff_not, rooms_iff hf]
  constructor
  ·intro hh
   exact ⟨fun k hk => (hh k hk).1, fun j k hj hk e => (hh k hk).2 ⟨j, hj, e⟩⟩
  ·rintro ⟨h1, h2⟩ k hk
   exact ⟨h1 k hk, fun ⟨j, hj, e⟩ => h2 j k hj hk e⟩
 have hp : FlatsV fl → ∀ n, (partyAt fl pa n = true ↔ (lastP pa n < pid pa n ∧ pid pa n ≤ 64) ∧ (pfl pa n = 0 ∨ HasF fl (pfl pa n) ∧ ∀ j, j < n → pfl pa j ≠ pfl pa n) ∧ (∀ k, k < (pwt pa n).length → HasF fl (rd (pwt pa n) (k : Int))) ∧ (∀ j k, j < k → k < (pwt pa n).length → rd (pwt pa n) (j : Int) ≠ rd (pwt pa n) (k : Int))) := by
  intro hf n
  unfold partyAt partyOk takenM
  simp only [Bool.and_eq_true, Bool.or_eq_true, decide_eq_true_iff, Bool.not_eq_true', foldM_const, getD_ite, decide_eq_false_iff_not, rooms_iff hf, hw hf, and_assoc]
  constructor
  ·rintro ⟨h1, h2, h3, h4, h5⟩
   refine ⟨h1, h2, ?_, h4, h5⟩
   rcases h3 with h3 | ⟨h3, h6⟩
   ·exact .inl h3
   ·exact .inr ⟨h3, fun j hj e => h6 ⟨j, hj, e⟩⟩
  ·rintro ⟨h1, h2, h3, h4, h5⟩
   refine ⟨h1, h2, ?_, h4, h5⟩
   rcases h3 with h3 | ⟨h3, h6⟩
   ·exact .inl h3
   ·exact .inr ⟨h3, fun ⟨j, hj, e⟩ => h6 j hj e⟩
 unfold marketOk
 rw [Bool.and_eq_true, flatsOk_iff, List.all_eq_true]
 simp only [List.mem_range]
 constructor
 ·rintro ⟨hf, hh⟩
  have hh' := fun n hn => (hp hf n).1 (hh n hn)
  obtain ⟨h1, h2⟩ := ha.1 (fun n hn => (hh' n hn).1.1)
  refine ⟨hf, h2, fun i hi => ⟨by have := h1 i hi; omega, (hh' i hi).1.2⟩, fun i hi h0 => ?_, fun i j hij hj h0 => ?_, fun i hi => (hh' i hi).2.2.1, fun i hi => (hh' i hi).2.2.2⟩
  ·rcases (hh' i hi).2.1 with h | h
   ·exact absurd h h0
   ·exact h.1
  ·rcases (hh' j hj).2.1 with h | h
   ·exact absurd h h0
   ·exact h.2 i hij
 ·intro hv
  refine ⟨hv.flv, fun n hn => (hp hv.flv n).2 ⟨⟨ha.2 ⟨fun n hn => by have := (hv.rng n hn).1; omega, hv.asc⟩ n hn, (hv.rng n hn).2⟩, ?_, hv.wnt n hn, hv.wdis n hn⟩⟩
  by_cases h0 : pfl pa n = 0
  ·exact .inl h0
  ·exact .inr ⟨hv.own n hn h0, fun j hj => hv.dis j n hj hn h0⟩
theorem marketOk_eq (fl : List FT) (pa : List PT) : marketOk fl pa = decide (Market fl pa) := by
 by_cases h : Market fl pa
 ·rw [decide_eq_true h]; exact (marketOk_iff fl pa).2 h
 ·rw [decide_eq_false h]
  cases hx : marketOk fl pa with
  | false => rfl
  | true => exact absurd ((marketOk_iff fl pa).1 hx) h
theorem Market.len {fl : List FT} {pa : List PT} (h : Market fl pa) : pa.length ≤ 64 := by
 rcases Nat.eq_zero_or_pos pa.length with e | e
 ·omega
 ·have h1 := asc_count (pid pa) pa.length (fun i hi => (h.rng i hi).1) h.asc (pa.length - 1) (by omega)
  have h2 := (h.rng (pa.length - 1) (by omega)).2
  omega
theorem Market.inj {fl : List FT} {pa : List PT} (h : Market fl pa) {i j : Nat} (hi : i < pa.length) (hj : j < pa.length) (e : pid pa i = pid pa j) : i = j := by
 rcases Nat.lt_trichotomy i j with h1 | h1 | h1
 ·have := h.asc i j h1 hj; omega
 ·exact h1
 ·have := h.asc j i h1 hi; omega
theorem Market.flat_inj {fl : List FT} {pa : List PT} (h : Market fl pa) {i j : Nat} (hi : i < pa.length) (hj : j < pa.length) (h0 : pfl pa i ≠ 0) (e : pfl pa i = pfl pa j) : i = j := by
 rcases Nat.lt_trichotomy i j with h1 | h1 | h1
 ·exact absurd e (h.dis i j h1 hj (by rw [← e]; exact h0))
 ·exact h1
 ·exact absurd e.symm (h.dis j i h1 hi h0)
def Fits (fl : List FT) (pa : List PT) (x : MT) : Prop := ∃ i, i < pa.length ∧ pid pa i = x.f0 ∧ pfl pa i = x.f1 ∧ HasF fl x.f2
def Free (pa : List PT) (x : Int) : Prop := ∀ i, i < pa.length → pfl pa i ≠ x
theorem known_eq (fl : List FT) (x : Int) : (knownM fl fl.length x).getD false = decide (HasF fl x) := by
 unfold knownM
 rw [foldM_const, getD_ite]
 exact decide_eq_decide.2 Iff.rfl
theorem occ_eq (pa : List PT) (x : Int) (hx : x ≠ 0) : (occM pa pa.length x).getD false = !decide (Free pa x) := by
 unfold occM
 rw [foldM_key (fun k => k != 0)]
 by_cases h : ∃ j, j < pa.length ∧ (rd_T46 pa (j : Int)).f1 = x
 ·rw [if_pos h, decide_eq_false (show ¬ Free pa x from fun hf => by obtain ⟨j, hj, e⟩ := h; exact hf j hj e)]
  simpa using hx
 ·rw [if_neg h, decide_eq_true (show Free pa x from fun j hj e => h ⟨j, hj, e⟩)]
  rfl
section
variable {fl : List FT} {pa : List PT} (hM : Market fl pa)
include hM
theorem homes_at {i : Nat} (hi : i < pa.length) : homesM pa pa.length (pid pa i) = some (pfl pa i) :=
 foldM_inj (fun j : Nat => (rd_T46 pa (j : Int)).f0) (fun j : Nat => (rd_T46 pa (j : Int)).f1) pa.length (fun i j h1 h2 => Int.ne_of_lt (hM.asc i j h1 h2)) i hi
theorem fits_iff (x : MT) : fitsB (homesM pa pa.length) (knownM fl fl.length) x = true ↔ Fits fl pa x := by
 unfold fitsB
 rw [Bool.and_eq_true, Bool.and_eq_true, known_eq, decide_eq_true_iff]
 constructor
 ·rintro ⟨⟨h1, h2⟩, h3⟩
  cases hx : homesM pa pa.length x.f0 with
  | none => rw [hx] at h1; cases h1
  | some v =>
   obtain ⟨j, hj, e1, e2⟩ := foldM_has _ _ _ _ _ hx
   rw [hx] at h2
   exact ⟨j, hj, e1, by rw [show pfl pa j = v from e2]; exact eq_of_beq h2, h3⟩
 ·rintro ⟨i, hi, e1, e2, h3⟩
  have := homes_at hM hi
  rw [e1, e2] at this
  rw [this]
  exact ⟨⟨rfl, beq_self_eq_true _⟩, h3⟩
end
theorem HasF.pos {fl : List FT} (h : FlatsV fl) {x : Int} (hx : HasF fl x) : 1 ≤ x := by
 obtain ⟨j, hj, rfl⟩ := hx
 exact (h.rng j hj).1
end Go.Proofs.Ytocbiggglnpeoaa.P
end
section
namespace Go.Proofs.Ytocbiggglnpeoaa.P
open Go.RowKit Go.Proofs.YtocbiggglnpeoaaW.PrintWords Go.Proofs.YtocbiggglnpeoaaW.PrintLast Go.Proofs.YtocbiggglnpeoaaW.PrintMore
attribute [local go_sem] max2_int min2_int max_two min_two max_three min_three max_four min_four
set_option linter.unusedVariables false
set_option linter.unusedSimpArgs false
set_option maxHeartbeats 8000000
set_option maxRecDepth 100000
section
theorem eqA84 (d : Nat) (w : World) (x0 y0 : Int) (x1 y1 : Int) :
  (Op.equalIn (d + 2) 84 (.agg #[.int .i64 x0, .int .i64 x1]) (.agg #[.int .i64 y0, .int .i64 y1])).run Try.prog w = .ok (x0 == y0 && (x1 == y1)) w := by
 refine eqA_of Try.underlying84 (by kernel_rfl) ?_
 refine eqf_cons (by rfl) (by go_simp; rfl) (by go_simp; rfl) (by go_simp) ?_
 exact eqf_last (by rfl) (by go_simp; rfl) (by go_simp; rfl) (by go_simp)
end
end Go.Proofs.Ytocbiggglnpeoaa.P
end
section
namespace Go.Proofs.Ytocbiggglnpeoaa.P
open Go.RowKit Go.Proofs.YtocbiggglnpeoaaW.PrintWords Go.Proofs.YtocbiggglnpeoaaW.PrintLast Go.Proofs.YtocbiggglnpeoaaW.PrintMore Go.Proofs.YtocbiggglnpeoaaH
open Classical
theorem loopUp (n : Nat) (P : Nat → Prop) (h0 : P n) (hs : ∀ i, i < n → P (i + 1) → P i) : ∀ i, i ≤ n → P i := by
 have key : ∀ d i, i + d = n → P i := by
  intro d
  induction d with
  | zero => intro i hi; rw [show i = n by omega]; exact h0
  | succ d ih => intro i hi; exact hs i (by omega) (ih (i + 1) (by omega))
 exact fun i hi => key (n - i) i (by omega)
def firstI (p : Nat → Bool) : Nat → Nat → Int
 | 0, _ => -1
 | d + 1, i => if p i = true then (i : Int) else firstI p d (i + 1)
theorem firstI_is (p : Nat → Bool) : ∀ d i, (firstI p d i = -1 ∧ ∀ j, i ≤ j → j < i + d → p j = false) ∨ ∃ j, i ≤ j ∧ j < i + d ∧ p j = true ∧ (∀ m, i ≤ m → m < j → p m = false) ∧ firstI p d i = j := by
 intro d
 induction d with
 | zero => intro i; exact .inl ⟨rfl, fun j h1 h2 => absurd h2 (by omega)⟩
 | succ d ih =>
  intro i
  unfold firstI
  by_cases h : p i = true
  ·rw [if_pos h]
   exact .inr ⟨i, Nat.le_refl _, by omega, h, fun m h1 h2 => absurd h2 (by omega), rfl⟩
  ·rw [if_neg h]
   have hf : p i = false := by cases hx : p i with | false => rfl | true => exact absurd hx h
   rcases ih (i + 1) with ⟨e, ha⟩ | ⟨j, h1, h2, h3, h4, e⟩
   ·refine .inl ⟨e, fun j h1 h2 => ?_⟩
    by_cases hj : j = i
    ·rw [hj]; exact hf
    ·exact ha j (by omega) (by omega)
   ·refine .inr ⟨j, by omega, by omega, h3, fun m hm1 hm2 => ?_, e⟩
    by_cases hj : m = i
    ·rw [hj]; exact hf
    ·exact h4 m (by omega) hm2
def inR (l : List Int) (x : Int) : Int := firstI (fun j => rd l (j : Int) == x) l.length 0
theorem inR_is (l : List Int) (x : Int) : (inR l x = -1 ∧ ∀ j, j < l.length → rd l (j : Int) ≠ x) ∨ ∃ j : Nat, j < l.length ∧ rd l (j : Int) = x ∧ (∀ m : Nat, m < j → rd l (m : Int) ≠ x) ∧ inR l x = j := by
 rcases firstI_is (fun j => rd l (j : Int) == x) l.length 0 with ⟨e, h⟩ | ⟨j, _, h2, h3, h4, e⟩
 ·exact .inl ⟨e, fun j hj => beq_eq_false_iff_ne.1 (h j (by omega) (by omega))⟩
 ·exact .inr ⟨j, by omega, eq_of_beq h3, fun m hm => beq_eq_false_iff_ne.1 (h4 m (by omega) hm), e⟩
theorem inR_pos (l : List Int) (x : Int) : inR l x ≥ 0 ↔ x ∈ l := by
 rcases inR_is l x with ⟨e, h⟩ | ⟨j, h1, h2, _, e⟩
 ·rw [e]
  constructor
  ·intro h; omega
  ·intro hm
   obtain ⟨j, hj, e2⟩ := List.mem_iff_getElem.1 hm
   exact absurd ((rd_get l j hj).trans e2) (h j hj)
 ·rw [e]
  exact ⟨fun _ => by rw [← h2, rd_get l j h1]; exact List.getElem_mem h1, fun _ => by omega⟩
theorem inR_neg (l : List Int) (x : Int) : inR l x < 0 ↔ x ∉ l := by
 rw [← inR_pos]
 constructor
 ·intro h; omega
 ·intro h; omega
theorem In_f (l : List Int) (x : Int) (hB : l.length ≤ 140737488355328) : Ev (fun k => cohousingref23_In.f k l x) (inR l x) := by
 have key : ∀ d i, i + d = l.length → Ev (fun k => cohousingref23_In.l0 k l x (i : Int)) (firstI (fun j => rd l (j : Int) == x) d i) := by
  intro d
  induction d with
  | zero =>
   intro i hi
   have h1 : ¬ ((i : Int) < (l.length : Int)) := by omega
   refine Ev.step ?_
   simp only [cohousingref23_In.l0, h1, if_false]
   exact Ev.pure _
  | succ d ih =>
   intro i hi
   have h1 : (i : Int) < (l.length : Int) := by omega
   have h2 : (0 : Int) ≤ (i : Int) := by omega
   refine Ev.step ?_
   unfold firstI
   by_cases h : rd l (i : Int) = x
   ·simp only [cohousingref23_In.l0, h1, h2, h, if_true, beq_self_eq_true]
    exact Ev.pure _
   ·have hb : (rd l (i : Int) == x) = false := beq_eq_false_iff_ne.2 h
    simp only [cohousingref23_In.l0, h1, h2, h, if_true, if_false, hb, Bool.false_eq_true, wrap_nat (show i ≤ 140737488355328 by omega)]
    exact ih (i + 1) (by omega)
 exact key l.length 0 (by omega)
theorem Has_f (l : List FT) (x : Int) (hB : l.length ≤ 140737488355328) : Ev (fun k => cohousingref23_Has.f k l x) (decide (HasF l x)) := by
 have key : ∀ i, i ≤ l.length → ((∀ j, j < i → fid l j ≠ x) → Ev (fun k => cohousingref23_Has.l0 k l x (i : Int)) (decide (HasF l x))) := by
  refine loopUp l.length _ ?_ ?_
  ·intro hn
   have h1 : ¬ (((l.length : Nat) : Int) < (l.length : Int)) := by omega
   refine Ev.step ?_
   simp only [cohousingref23_Has.l0, h1, if_false]
   rw [decide_eq_false (fun ⟨j, hj, e⟩ => hn j hj e)]
   exact Ev.pure _
  ·intro i hi ih hn
   have h1 : (i : Int) < (l.length : Int) := by omega
   have h2 : (0 : Int) ≤ (i : Int) := by omega
   refine Ev.step ?_
   by_cases h : (rd_T84 l (i : Int)).f0 = x
   ·simp only [cohousingref23_Has.l0, h1, h2, h, if_true]
    rw [decide_eq_true ⟨i, hi, h⟩]
    exact Ev.pure _
   ·simp only [cohousingref23_Has.l0, h1, h2, h, if_true, if_false, wrap_nat (show i ≤ 140737488355328 by omega)]
    refine ih (fun j hj => ?_)
    by_cases e : j = i
    ·rw [e]; exact h
    ·exact hn j (by omega)
 exact key 0 (by omega) (fun j hj => absurd hj (Nat.not_lt_zero _))
theorem wrap_pred {i : Nat} (h0 : 0 < i) (h : i ≤ 140737488355328) : wrap64 ((i : Int) - 1) = ((i - 1 : Nat) : Int) := by unfold wrap64; omega
theorem Flats_f (l : List FT) : Ev (fun k => cohousingref23_Flats.f k l) (decide (FlatsV l)) := by
 unfold cohousingref23_Flats.f
 by_cases hl : (l.length : Int) > 64
 ·simp only [hl, if_true]
  rw [decide_eq_false (fun h => by have := h.len; omega)]
  exact Ev.pure _
 simp only [hl, if_false]
 have hB : l.length ≤ 64 := by omega
 have key : ∀ i, i ≤ l.length → ((∀ j, j < i → flatAt l j = true) → Ev (fun k => cohousingref23_Flats.l0 k l (i : Int)) (decide (FlatsV l))) := by
  refine loopUp l.length _ ?_ ?_
  ·intro hn
   have h1 : ¬ (((l.length : Nat) : Int) < (l.length : Int)) := by omega
   refine Ev.step ?_
   simp only [cohousingref23_Flats.l0, h1, if_false]
   rw [decide_eq_true ((flatsOk_iff l).1 (flatsOk_true hn))]
   exact Ev.pure _
  ·intro i hi ih hn
   have h1 : (i : Int) < (l.length : Int) := by omega
   have h2 : (0 : Int) ≤ (i : Int) := by omega
   have bad : flatAt l i = false → decide (FlatsV l) = false := fun h => decide_eq_false (fun hv => by
    have := (flatsOk_iff l).2 hv
    rw [flatsOk_false hi h] at this
    cases this)
   have fa : ∀ P : Prop, (P → ¬ (lastF l i < (rd_T84 l (i : Int)).f0 ∧ (rd_T84 l (i : Int)).f0 ≤ 64 ∧ 1 ≤ (rd_T84 l (i : Int)).f1 ∧ (rd_T84 l (i : Int)).f1 ≤ 10)) → P → decide (FlatsV l) = false := fun P h hP => bad (decide_eq_false (h hP))
   have lo : 0 ≤ lastF l i := by
    unfold lastF
    by_cases e : i = 0
    ·rw [if_pos e]; exact Int.le_refl _
    ·rw [if_neg e]
     have := of_decide_eq_true (hn (i - 1) (by omega))
     have h3 : 0 ≤ lastF l (i - 1) ∨ True := .inr trivial
     have : ∀ m, m < i → 0 < (rd_T84 l (m : Int)).f0 := by
      intro m
      induction m with
      | zero => intro hm; have := (of_decide_eq_true (hn 0 hm)).1; simpa [lastF] using this
      | succ m ihm => intro hm; have h4 := ihm (by omega); have h5 := (of_decide_eq_true (hn (m + 1) hm)).1; rw [lastF_succ] at h5; omega
     have := this (i - 1) (by omega)
     omega
   refine Ev.step ?_
   by_cases c1 : (rd_T84 l (i : Int)).f0 < 1
   ·simp only [cohousingref23_Flats.l0, h1, h2, c1, if_true]
    rw [fa _ (fun h => by omega) c1]
    exact Ev.pure _
   by_cases c2 : (rd_T84 l (i : Int)).f0 > 64
   ·simp only [cohousingref23_Flats.l0, h1, h2, c1, c2, if_true, if_false]
    rw [fa _ (fun h => by omega) c2]
    exact Ev.pure _
   have tail : lastF l i < (rd_T84 l (i : Int)).f0 → Ev (fun k => if ((rd_T84 l (i : Int)).f1) < 1 then (some false) else (if ((rd_T84 l (i : Int)).f1) > 10 then (some false) else (cohousingref23_Flats.l0 k l (wrap64 ((i : Int) + 1))))) (decide (FlatsV l)) := by
    intro hlast
    by_cases c3 : (rd_T84 l (i : Int)).f1 < 1
    ·simp only [c3, if_true]
     rw [fa _ (fun h => by omega) c3]
     exact Ev.pure _
    by_cases c4 : (rd_T84 l (i : Int)).f1 > 10
    ·simp only [c3, c4, if_true, if_false]
     rw [fa _ (fun h => by omega) c4]
     exact Ev.pure _
    simp only [c3, c4, if_false, wrap_nat (show i ≤ 140737488355328 by omega)]
    refine ih (fun j hj => ?_)
    by_cases e : j = i
    ·rw [e]; exact decide_eq_true ⟨hlast, by omega, by omega, by omega⟩
    ·exact hn j (by omega)
   by_cases c5 : 0 < i
   ·have h3 : (i : Int) > 0 := by omega
    have h4 : (0 : Int) ≤ ((i - 1 : Nat) : Int) := by omega
    have h5 : ((i - 1 : Nat) : Int) < (l.length : Int) := by omega
    have hla : lastF l i = (rd_T84 l ((i - 1 : Nat) : Int)).f0 := by unfold lastF; rw [if_neg (by omega)]
    by_cases c6 : (rd_T84 l (i : Int)).f0 ≤ (rd_T84 l ((i - 1 : Nat) : Int)).f0
    ·simp only [cohousingref23_Flats.l0, h1, h2, c1, c2, h3, wrap_pred c5 (show i ≤ 140737488355328 by omega), h4, h5, c6, if_true, if_false]
     rw [fa _ (fun h => by omega) c6]
     exact Ev.pure _
    ·simp only [cohousingref23_Flats.l0, h1, h2, c1, c2, h3, wrap_pred c5 (show i ≤ 140737488355328 by omega), h4, h5, c6, if_true, if_false]
     exact tail (by omega)
   ·have h3 : ¬ ((i : Int) > 0) := by omega
    simp only [cohousingref23_Flats.l0, h1, h2, c1, c2, h3, if_true, if_false]
    exact tail (by unfold lastF; rw [if_pos (by omega)]; omega)
 exact key 0 (by omega) (fun j hj => absurd hj (Nat.not_lt_zero _))
def PartyV (fl : List FT) (pa : List PT) (n : Nat) : Prop :=
 (1 ≤ pid pa n ∧ pid pa n ≤ 64 ∧ (0 < n → pid pa (n - 1) < pid pa n)) ∧ (pfl pa n ≠ 0 → HasF fl (pfl pa n) ∧ ∀ j, j < n → pfl pa j ≠ pfl pa n) ∧ (∀ k, k < (pwt pa n).length → HasF fl (rd (pwt pa n) (k : Int))) ∧ (∀ j k, j < k → k < (pwt pa n).length → rd (pwt pa n) (j : Int) ≠ rd (pwt pa n) (k : Int))
theorem market_party {fl : List FT} {pa : List PT} (hf : FlatsV fl) (h : ∀ n, n < pa.length → PartyV fl pa n) : Market fl pa := by
 have ha := asc_adj (pid pa) 0 pa.length
 obtain ⟨h1, h2⟩ := ha.1 (fun n hn => by
  have := (h n hn).1
  by_cases e : n = 0
  ·rw [if_pos e]; omega
  ·rw [if_neg e]; exact this.2.2 (by omega))
 exact ⟨hf, h2, fun i hi => ⟨(h i hi).1.1, (h i hi).1.2.1⟩, fun i hi h0 => ((h i hi).2.1 h0).1, fun i j hij hj h0 => ((h j hj).2.1 h0).2 i hij, fun i hi => (h i hi).2.2.1, fun i hi => (h i hi).2.2.2⟩
theorem party_market {fl : List FT} {pa : List PT} (h : Market fl pa) {n : Nat} (hn : n < pa.length) : PartyV fl pa n :=
 ⟨⟨(h.rng n hn).1, (h.rng n hn).2, fun h0 => h.asc (n - 1) n (by omega) hn⟩, fun h0 => ⟨h.own n hn h0, fun j hj => h.dis j n hj hn h0⟩, h.wnt n hn, h.wdis n hn⟩
def WB (pa : List PT) : Prop := ∀ i, i < pa.length → (pwt pa i).length ≤ 140737488355328
theorem Valid_f (fl : List FT) (pa : List PT) (hF : fl.length ≤ 140737488355328) (hW : WB pa) : Ev (fun k => cohousingref23_Valid.f k fl pa) (decide (Market fl pa)) := by
 unfold cohousingref23_Valid.f
 refine Ev.bnd (Flats_f fl) ?_
 have out : ¬ Market fl pa → Ev (fun k => cohousingref23_Valid.j0 k true fl pa) (decide (Market fl pa)) := fun h => by
  rw [decide_eq_false h]
  refine Ev.step ?_
  simp only [cohousingref23_Valid.j0, if_true]
  exact Ev.pure _
 by_cases hf : FlatsV fl
 ·simp only [decide_eq_true hf, if_true]
  by_cases hl : (pa.length : Int) > 64
  ·rw [decide_eq_true hl]
   exact out (fun h => by have := h.len; omega)
  ·rw [decide_eq_false hl]
   have hB : pa.length ≤ 64 := by omega
   refine Ev.step ?_
   simp only [cohousingref23_Valid.j0, Bool.false_eq_true, if_false]
   have key : ∀ i, i ≤ pa.length → ((∀ j, j < i → PartyV fl pa j) → Ev (fun k => cohousingref23_Valid.l0 k (i : Int) fl pa) (decide (Market fl pa))) := by
    refine loopUp pa.length _ ?_ ?_
    ·intro hn
     have h1 : ¬ (((pa.length : Nat) : Int) < (pa.length : Int)) := by omega
     refine Ev.step ?_
     simp only [cohousingref23_Valid.l0, h1, if_false]
     rw [decide_eq_true (market_party hf hn)]
     exact Ev.pure _
    ·intro i hi ih hn
     have h1 : (i : Int) < (pa.length : Int) := by omega
     have h2 : (0 : Int) ≤ (i : Int) := by omega
     have bad : ¬ PartyV fl pa i → decide (Market fl pa) = false := fun h => decide_eq_false (fun hm => h (party_market hm hi))
     have hwi := hW i hi
     have l2 : (1 ≤ pid pa i ∧ pid pa i ≤ 64 ∧ (0 < i → pid pa (i - 1) < pid pa i)) → (pfl pa i ≠ 0 → HasF fl (pfl pa i) ∧ ∀ j, j < i → pfl pa j ≠ pfl pa i) →
       ∀ m, m ≤ (pwt pa i).length → ((∀ k, k < m → HasF fl (rd (pwt pa i) (k : Int)) ∧ ∀ j, j < k → rd (pwt pa i) (j : Int) ≠ rd (pwt pa i) (k : Int)) → Ev (fun k => cohousingref23_Valid.l2 k (i : Int) (m : Int) fl pa (pid pa i) (pfl pa i) (pwt pa i)) (decide (Market fl pa))) := by
      intro g1 g2
      refine loopUp (pwt pa i).length _ ?_ ?_
      ·intro hk
       have c1 : ¬ ((((pwt pa i).length : Nat) : Int) < ((pwt pa i).length : Int)) := by omega
       refine Ev.step ?_
       simp only [cohousingref23_Valid.l2, c1, if_false, wrap_nat (show i ≤ 140737488355328 by omega)]
       refine ih (fun j hj => ?_)
       by_cases e : j = i
       ·rw [e]; exact ⟨g1, g2, fun k hk' => (hk k hk').1, fun a b hab hb => (hk b hb).2 a hab⟩
       ·exact hn j (by omega)
      ·intro m hm ihm hk
       have c1 : (m : Int) < ((pwt pa i).length : Int) := by omega
       have c2 : (0 : Int) ≤ (m : Int) := by omega
       refine Ev.step ?_
       simp only [cohousingref23_Valid.l2, c1, c2, if_true]
       refine Ev.bnd (Has_f fl _ hF) ?_
       by_cases c3 : HasF fl (rd (pwt pa i) (m : Int))
       ·simp only [decide_eq_true c3, if_true]
        refine Ev.bnd (In_f (pwt pa i) _ hwi) ?_
        rcases inR_is (pwt pa i) (rd (pwt pa i) (m : Int)) with ⟨e, hno⟩ | ⟨j, hj, e1, e2, e3⟩
        ·exact absurd rfl (hno m hm)
        ·rw [e3]
         have hjm : j ≤ m := by
          rcases Nat.lt_or_ge m j with h | h
          ·exact absurd rfl (e2 m h)
          ·exact h
         by_cases c4 : j = m
         ·subst c4
          simp only [if_true, wrap_nat (show j ≤ 140737488355328 by omega)]
          refine ihm (fun k hk' => ?_)
          by_cases e : k = j
          ·subst e; exact ⟨c3, e2⟩
          ·exact hk k (by omega)
         ·have c5 : ¬ ((j : Int) = (m : Int)) := by omega
          simp only [c5, if_false]
          rw [bad (fun h => h.2.2.2 j m (by omega) hm e1)]
          exact Ev.pure _
       ·simp only [decide_eq_false c3, Bool.false_eq_true, if_false]
        rw [bad (fun h => c3 (h.2.2.1 m hm))]
        exact Ev.pure _
     have l1 : (1 ≤ pid pa i ∧ pid pa i ≤ 64 ∧ (0 < i → pid pa (i - 1) < pid pa i)) → (pfl pa i ≠ 0 → HasF fl (pfl pa i)) →
       ∀ m, m ≤ i → ((pfl pa i ≠ 0 → ∀ j, j < m → pfl pa j ≠ pfl pa i) → Ev (fun k => cohousingref23_Valid.l1 k (i : Int) (m : Int) fl pa (pid pa i) (pfl pa i) (pwt pa i)) (decide (Market fl pa))) := by
      intro g1 g2
      refine loopUp i _ ?_ ?_
      ·intro hk
       have c1 : ¬ ((i : Int) < (i : Int)) := by omega
       refine Ev.step ?_
       simp only [cohousingref23_Valid.l1, c1, if_false]
       exact l2 g1 (fun h0 => ⟨g2 h0, hk h0⟩) 0 (by omega) (fun k hk => absurd hk (Nat.not_lt_zero _))
      ·intro m hm ihm hk
       have c1 : (m : Int) < (i : Int) := by omega
       have c2 : (0 : Int) ≤ (m : Int) := by omega
       have c3 : (m : Int) < (pa.length : Int) := by omega
       refine Ev.step ?_
       by_cases c4 : pfl pa i = 0
       ·have c4' : (rd_T46 pa (i : Int)).f1 = 0 := c4
        simp only [cohousingref23_Valid.l1, c1, c4', if_true, wrap_nat (show m ≤ 140737488355328 by omega)]
        rw [← c4']
        exact ihm (fun h0 => absurd c4 h0)
       ·have c4' : ¬ ((rd_T46 pa (i : Int)).f1 = 0) := c4
        by_cases c5 : (rd_T46 pa (m : Int)).f1 = (rd_T46 pa (i : Int)).f1
        ·simp only [cohousingref23_Valid.l1, c1, c2, c3, c4', c5, if_true, if_false]
         rw [bad (fun h => (h.2.1 c4).2 m hm c5)]
         exact Ev.pure _
        ·simp only [cohousingref23_Valid.l1, c1, c2, c3, c4', c5, if_true, if_false, wrap_nat (show m ≤ 140737488355328 by omega)]
         refine ihm (fun h0 j hj => ?_)
         by_cases e : j = m
         ·rw [e]; exact c5
         ·exact hk h0 j (by omega)
     have j2t : ¬ (1 ≤ pid pa i ∧ pid pa i ≤ 64 ∧ (0 < i → pid pa (i - 1) < pid pa i)) → Ev (fun k => cohousingref23_Valid.j2 k (i : Int) true fl pa (pid pa i) (pfl pa i) (pwt pa i)) (decide (Market fl pa)) := by
      intro g
      refine Ev.step ?_
      simp only [cohousingref23_Valid.j2, if_true]
      rw [bad (fun h => g h.1)]
      exact Ev.pure _
     have j2f : (1 ≤ pid pa i ∧ pid pa i ≤ 64 ∧ (0 < i → pid pa (i - 1) < pid pa i)) → Ev (fun k => cohousingref23_Valid.j2 k (i : Int) false fl pa (pid pa i) (pfl pa i) (pwt pa i)) (decide (Market fl pa)) := by
      intro g
      refine Ev.step ?_
      simp only [cohousingref23_Valid.j2, Bool.false_eq_true, if_false]
      refine Ev.bnd (Has_f fl _ hF) ?_
      have j3f : (pfl pa i ≠ 0 → HasF fl (pfl pa i)) → Ev (fun k => cohousingref23_Valid.j3 k (i : Int) false fl pa (pid pa i) (pfl pa i) (pwt pa i)) (decide (Market fl pa)) := fun g2 => by
       refine Ev.step ?_
       simp only [cohousingref23_Valid.j3, Bool.false_eq_true, if_false]
       exact l1 g g2 0 (by omega) (fun _ j hj => absurd hj (Nat.not_lt_zero _))
      by_cases c4 : pfl pa i = 0
      ·have c4' : (rd_T46 pa (i : Int)).f1 = 0 := c4
       simp only [c4', if_true]
       have := j3f (fun h => absurd c4 h)
       simp only [pfl, c4'] at this
       exact this
      ·have c4' : ¬ ((rd_T46 pa (i : Int)).f1 = 0) := c4
       simp only [c4', if_false]
       by_cases c5 : HasF fl (pfl pa i)
       ·rw [decide_eq_true c5]
        exact j3f (fun _ => c5)
       ·rw [decide_eq_false c5]
        refine Ev.step ?_
        simp only [cohousingref23_Valid.j3, Bool.not_false, if_true]
        rw [bad (fun h => c5 (h.2.1 c4).1)]
        exact Ev.pure _
     refine Ev.step ?_
     by_cases c1 : (rd_T46 pa (i : Int)).f0 < 1
     ·simp only [cohousingref23_Valid.l0, h1, h2, c1, if_true]
      exact j2t (fun h => by have := h.1; simp only [pid] at this; omega)
     by_cases c2 : (rd_T46 pa (i : Int)).f0 > 64
     ·simp only [cohousingref23_Valid.l0, h1, h2, c1, c2, if_true, if_false]
      exact j2t (fun h => by have := h.2.1; simp only [pid] at this; omega)
     by_cases c5 : 0 < i
     ·have h3 : (i : Int) > 0 := by omega
      have h4 : (0 : Int) ≤ ((i - 1 : Nat) : Int) := by omega
      have h5 : ((i - 1 : Nat) : Int) < (pa.length : Int) := by omega
      simp only [cohousingref23_Valid.l0, h1, h2, c1, c2, h3, wrap_pred c5 (show i ≤ 140737488355328 by omega), h4, h5, if_true, if_false]
      by_cases c6 : (rd_T46 pa (i : Int)).f0 ≤ (rd_T46 pa ((i - 1 : Nat) : Int)).f0
      ·rw [decide_eq_true c6]
       exact j2t (fun h => by have := h.2.2 c5; simp only [pid] at this; omega)
      ·rw [decide_eq_false c6]
       exact j2f ⟨by simp only [pid]; omega, by simp only [pid]; omega, fun _ => by simp only [pid]; omega⟩
     ·have h3 : ¬ ((i : Int) > 0) := by omega
      simp only [cohousingref23_Valid.l0, h1, h2, c1, c2, h3, if_true, if_false]
      exact j2f ⟨by simp only [pid]; omega, by simp only [pid]; omega, fun h => absurd h c5⟩
   exact key 0 (by omega) (fun j hj => absurd hj (Nat.not_lt_zero _))
 ·simp only [decide_eq_false hf, Bool.false_eq_true, if_false]
  exact out (fun h => hf h.flv)
structure FewM (fl : List FT) (pa : List PT) : Prop where
 f : fl.length ≤ 20
 p : pa.length ≤ 20
 w : ∀ i, i < pa.length → (pwt pa i).length ≤ 30
theorem FewM_f (fl : List FT) (pa : List PT) : Ev (fun k => cohousingref23_Few.f k fl pa) (decide (FewM fl pa)) := by
 unfold cohousingref23_Few.f
 have out : ¬ FewM fl pa → Ev (fun k => cohousingref23_Few.j0 k true fl pa) (decide (FewM fl pa)) := fun h => by
  rw [decide_eq_false h]
  refine Ev.step ?_
  simp only [cohousingref23_Few.j0, if_true]
  exact Ev.pure _
 by_cases h1 : (fl.length : Int) > 20
 ·simp only [h1, if_true]
  exact out (fun h => by have := h.f; omega)
 simp only [h1, if_false]
 by_cases h2 : (pa.length : Int) > 20
 ·rw [decide_eq_true h2]
  exact out (fun h => by have := h.p; omega)
 rw [decide_eq_false h2]
 refine Ev.step ?_
 simp only [cohousingref23_Few.j0, Bool.false_eq_true, if_false]
 have key : ∀ i, i ≤ pa.length → ((∀ j, j < i → (pwt pa j).length ≤ 30) → Ev (fun k => cohousingref23_Few.l0 k (i : Int) fl pa) (decide (FewM fl pa))) := by
  refine loopUp pa.length _ ?_ ?_
  ·intro hn
   have c1 : ¬ (((pa.length : Nat) : Int) < (pa.length : Int)) := by omega
   refine Ev.step ?_
   simp only [cohousingref23_Few.l0, c1, if_false]
   rw [decide_eq_true ⟨by omega, by omega, hn⟩]
   exact Ev.pure _
  ·intro i hi ih hn
   have c1 : (i : Int) < (pa.length : Int) := by omega
   have c2 : (0 : Int) ≤ (i : Int) := by omega
   refine Ev.step ?_
   by_cases c3 : ((rd_T46 pa (i : Int)).f2.length : Int) > 30
   ·simp only [cohousingref23_Few.l0, c1, c2, c3, if_true]
    rw [decide_eq_false (fun h => by have := h.w i hi; simp only [pwt] at this; omega)]
    exact Ev.pure _
   ·simp only [cohousingref23_Few.l0, c1, c2, c3, if_true, if_false, wrap_nat (show i ≤ 140737488355328 by omega)]
    refine ih (fun j hj => ?_)
    by_cases e : j = i
    ·rw [e]; simp only [pwt]; omega
    ·exact hn j (by omega)
 exact key 0 (by omega) (fun j hj => absurd hj (Nat.not_lt_zero _))
theorem FewM.wb {fl : List FT} {pa : List PT} (h : FewM fl pa) : WB pa := fun i hi => by have := h.w i hi; omega
structure FewR (l : List GT) (rs : List YT) : Prop where
 len : l.length ≤ 20
 r : rs.length ≤ 60
 m : ∀ i, i < l.length → (rg l i).f1.length ≤ 30
theorem FewR_f (l : List GT) (rs : List YT) : Ev (fun k => cohousingref26_Few.f k l rs) (decide (FewR l rs)) := by
 unfold cohousingref26_Few.f
 have out : ¬ FewR l rs → Ev (fun k => cohousingref26_Few.j0 k l true) (decide (FewR l rs)) := fun h => by
  rw [decide_eq_false h]
  refine Ev.step ?_
  simp only [cohousingref26_Few.j0, if_true]
  exact Ev.pure _
 by_cases h1 : (l.length : Int) > 20
 ·simp only [h1, if_true]
  exact out (fun h => by have := h.len; omega)
 simp only [h1, if_false]
 by_cases h2 : (rs.length : Int) > 60
 ·rw [decide_eq_true h2]
  exact out (fun h => by have := h.r; omega)
 rw [decide_eq_false h2]
 refine Ev.step ?_
 simp only [cohousingref26_Few.j0, Bool.false_eq_true, if_false]
 have key : ∀ i, i ≤ l.length → ((∀ j, j < i → (rg l j).f1.length ≤ 30) → Ev (fun k => cohousingref26_Few.l0 k l (i : Int)) (decide (FewR l rs))) := by
  refine loopUp l.length _ ?_ ?_
  ·intro hn
   have c1 : ¬ (((l.length : Nat) : Int) < (l.length : Int)) := by omega
   refine Ev.step ?_
   simp only [cohousingref26_Few.l0, c1, if_false]
   rw [decide_eq_true ⟨by omega, by omega, hn⟩]
   exact Ev.pure _
  ·intro i hi ih hn
   have c1 : (i : Int) < (l.length : Int) := by omega
   have c2 : (0 : Int) ≤ (i : Int) := by omega
   refine Ev.step ?_
   by_cases c3 : ((rd_T49 l (i : Int)).f1.length : Int) > 30
   ·simp only [cohousingref26_Few.l0, c1, c2, c3, if_true]
    rw [decide_eq_false (fun h => by have := h.m i hi; simp only [rg] at this; omega)]
    exact Ev.pure _
   ·simp only [cohousingref26_Few.l0, c1, c2, c3, if_true, if_false, wrap_nat (show i ≤ 140737488355328 by omega)]
    refine ih (fun j hj => ?_)
    by_cases e : j = i
    ·rw [e]; simp only [rg]; omega
    ·exact hn j (by omega)
 exact key 0 (by omega) (fun j hj => absurd hj (Nat.not_lt_zero _))
end Go.Proofs.Ytocbiggglnpeoaa.P
end
section
namespace Go.Proofs.Ytocbiggglnpeoaa.P
open Go.RowKit Go.Proofs.YtocbiggglnpeoaaW.PrintWords Go.Proofs.YtocbiggglnpeoaaW.PrintLast Go.Proofs.YtocbiggglnpeoaaW.PrintMore Go.Proofs.YtocbiggglnpeoaaH
open Classical
def partyR (pa : List PT) (x : Int) : Int := firstI (fun j => pid pa j == x) pa.length 0
theorem partyR_is (pa : List PT) (x : Int) : (partyR pa x = -1 ∧ ∀ j, j < pa.length → pid pa j ≠ x) ∨ ∃ j : Nat, j < pa.length ∧ pid pa j = x ∧ partyR pa x = j := by
 rcases firstI_is (fun j => pid pa j == x) pa.length 0 with ⟨e, h⟩ | ⟨j, _, h2, h3, h4, e⟩
 ·exact .inl ⟨e, fun j hj => beq_eq_false_iff_ne.1 (h j (by omega) (by omega))⟩
 ·exact .inr ⟨j, by omega, eq_of_beq h3, e⟩
theorem Party_f (fl : List FT) (pa : List PT) (x : Int) (hB : pa.length ≤ 140737488355328) : Ev (fun k => cohousingref26_Party.f k fl pa x) (partyR pa x) := by
 have key : ∀ d i, i + d = pa.length → Ev (fun k => cohousingref26_Party.l0 k x (i : Int) fl pa) (firstI (fun j => pid pa j == x) d i) := by
  intro d
  induction d with
  | zero =>
   intro i hi
   have h1 : ¬ ((i : Int) < (pa.length : Int)) := by omega
   refine Ev.step ?_
   simp only [cohousingref26_Party.l0, h1, if_false]
   exact Ev.pure _
  | succ d ih =>
   intro i hi
   have h1 : (i : Int) < (pa.length : Int) := by omega
   have h2 : (0 : Int) ≤ (i : Int) := by omega
   refine Ev.step ?_
   unfold firstI
   by_cases h : (rd_T46 pa (i : Int)).f0 = x
   ·simp only [cohousingref26_Party.l0, h1, h2, h, if_true, beq_self_eq_true]
    exact Ev.pure _
   ·have hb : ((rd_T46 pa (i : Int)).f0 == x) = false := beq_eq_false_iff_ne.2 h
    simp only [cohousingref26_Party.l0, h1, h2, h, if_true, if_false, hb, Bool.false_eq_true, wrap_nat (show i ≤ 140737488355328 by omega)]
    exact ih (i + 1) (by omega)
 exact key pa.length 0 (by omega)
theorem Free_f (fl : List FT) (pa : List PT) (x : Int) (hB : pa.length ≤ 140737488355328) : Ev (fun k => cohousingref26_Free.f k fl pa x) (decide (Free pa x)) := by
 have key : ∀ i, i ≤ pa.length → ((∀ j, j < i → pfl pa j ≠ x) → Ev (fun k => cohousingref26_Free.l0 k x (i : Int) fl pa) (decide (Free pa x))) := by
  refine loopUp pa.length _ ?_ ?_
  ·intro hn
   have h1 : ¬ (((pa.length : Nat) : Int) < (pa.length : Int)) := by omega
   refine Ev.step ?_
   simp only [cohousingref26_Free.l0, h1, if_false]
   rw [decide_eq_true (show Free pa x from hn)]
   exact Ev.pure _
  ·intro i hi ih hn
   have h1 : (i : Int) < (pa.length : Int) := by omega
   have h2 : (0 : Int) ≤ (i : Int) := by omega
   refine Ev.step ?_
   by_cases h : (rd_T46 pa (i : Int)).f1 = x
   ·simp only [cohousingref26_Free.l0, h1, h2, h, if_true]
    rw [decide_eq_false (fun hf => hf i hi h)]
    exact Ev.pure _
   ·simp only [cohousingref26_Free.l0, h1, h2, h, if_true, if_false, wrap_nat (show i ≤ 140737488355328 by omega)]
    refine ih (fun j hj => ?_)
    by_cases e : j = i
    ·rw [e]; exact h
    ·exact hn j (by omega)
 exact key 0 (by omega) (fun j hj => absurd hj (Nat.not_lt_zero _))
def MoveR (fl : List FT) (pa : List PT) (x : MT) : Prop := ∃ j : Nat, partyR pa x.f0 = j ∧ j < pa.length ∧ pid pa j = x.f0 ∧ pfl pa j = x.f1 ∧ HasF fl x.f2
theorem move_f (fl : List FT) (pa : List PT) (x : MT) (hF : fl.length ≤ 140737488355328) (hB : pa.length ≤ 140737488355328) : Ev (fun k => cohousingref26_move.f k fl pa x.f0 x.f1 x.f2) (decide (MoveR fl pa x)) := by
 unfold cohousingref26_move.f
 refine Ev.bnd (Party_f fl pa x.f0 hB) ?_
 refine Ev.bnd (Has_f fl x.f2 hF) ?_
 rcases partyR_is pa x.f0 with ⟨e, hno⟩ | ⟨j, hj, e1, e⟩
 ·rw [e, decide_eq_false (show ¬ MoveR fl pa x from fun ⟨j, h1, h2, h3, _⟩ => hno j h2 h3)]
  simp only [show ¬ ((-1 : Int) ≥ 0) by omega, if_false]
  exact Ev.pure _
 ·rw [e]
  have h1 : (j : Int) ≥ 0 := by omega
  have h2 : (0 : Int) ≤ (j : Int) := by omega
  have h3 : (j : Int) < (pa.length : Int) := by omega
  by_cases hh : HasF fl x.f2
  ·simp only [h1, h2, h3, decide_eq_true hh, if_true]
   rw [show ((rd_T46 pa (j : Int)).f1 == x.f1) = decide (MoveR fl pa x) from by
    by_cases c : pfl pa j = x.f1
    ·rw [decide_eq_true ⟨j, e, hj, e1, c, hh⟩]; exact beq_iff_eq.2 c
    ·rw [decide_eq_false (fun ⟨j', h1, h2, h3, h4, _⟩ => c (by rw [show j = j' from by omega]; exact h4))]; exact beq_eq_false_iff_ne.2 c]
   exact Ev.pure _
  ·simp only [h1, decide_eq_false hh, if_true, Bool.false_eq_true, if_false]
   rw [decide_eq_false (show ¬ MoveR fl pa x from fun ⟨_, _, _, _, _, h⟩ => hh h)]
   exact Ev.pure _
theorem moveR_iff {fl : List FT} {pa : List PT} (hM : Market fl pa) (x : MT) : MoveR fl pa x ↔ Fits fl pa x := by
 constructor
 ·rintro ⟨j, _, h2, h3, h4, h5⟩
  exact ⟨j, h2, h3, h4, h5⟩
 ·rintro ⟨i, hi, e1, e2, h3⟩
  rcases partyR_is pa x.f0 with ⟨e, hno⟩ | ⟨j, hj, e3, e⟩
  ·exact absurd e1 (hno i hi)
  ·have : i = j := hM.inj hi hj (by rw [e1, e3])
   subst this
   exact ⟨i, e, hi, e1, e2, h3⟩
def ShapeR (pa : List PT) (r : GT) : Prop :=
 0 < r.f1.length ∧ (r.f0 = true → Free pa (mv r.f1 0).f2 ∧ ∀ i, 1 ≤ i → i < r.f1.length → (mv r.f1 i).f2 = (mv r.f1 (i - 1)).f1) ∧
 (r.f0 = false → ∀ i, i < r.f1.length → (mv r.f1 i).f1 ≠ 0 ∧ (mv r.f1 i).f2 = (mv r.f1 ((i + 1) % r.f1.length)).f1)
theorem shape_f (fl : List FT) (pa : List PT) (r : GT) (hB : pa.length ≤ 140737488355328) (hr : r.f1.length ≤ 140737488355328) : Ev (fun k => cohousingref26_shape.f k fl pa r.f0 r.f1) (decide (ShapeR pa r)) := by
 unfold cohousingref26_shape.f
 by_cases h0 : (r.f1.length : Int) = 0
 ·simp only [h0, if_true]
  rw [decide_eq_false (fun h => by have := h.1; omega)]
  exact Ev.pure _
 simp only [h0, if_false]
 have hp : 0 < r.f1.length := by omega
 have hp' : (0 : Int) < (r.f1.length : Int) := by omega
 cases hc : r.f0 with
 | true =>
  simp only [hp', if_true]
  refine Ev.bnd (Free_f fl pa _ hB) ?_
  by_cases hf : Free pa (mv r.f1 0).f2
  ·have hf' : Free pa (rd_T51 r.f1 0).f2 := hf
   simp only [decide_eq_true hf', if_true]
   have key : ∀ i, i ≤ r.f1.length → ((1 ≤ i ∧ ∀ j, 1 ≤ j → j < i → (mv r.f1 j).f2 = (mv r.f1 (j - 1)).f1) → Ev (fun k => cohousingref26_shape.l0 k (r.f1.length : Int) (i : Int) true r.f1) (decide (ShapeR pa r))) := by
    refine loopUp r.f1.length _ ?_ ?_
    ·rintro ⟨_, hn⟩
     have h1 : ¬ (((r.f1.length : Nat) : Int) < (r.f1.length : Int)) := by omega
     refine Ev.step ?_
     simp only [cohousingref26_shape.l0, h1, if_false]
     rw [decide_eq_true (show ShapeR pa r from ⟨hp, fun _ => ⟨hf, hn⟩, fun h => by rw [hc] at h; cases h⟩)]
     exact Ev.pure _
    ·rintro i hi ih ⟨hi1, hn⟩
     have h1 : (i : Int) < (r.f1.length : Int) := by omega
     have h2 : (0 : Int) ≤ (i : Int) := by omega
     have h3 : (0 : Int) ≤ ((i - 1 : Nat) : Int) := by omega
     have h4 : ((i - 1 : Nat) : Int) < (r.f1.length : Int) := by omega
     refine Ev.step ?_
     by_cases h : (rd_T51 r.f1 (i : Int)).f2 = (rd_T51 r.f1 ((i - 1 : Nat) : Int)).f1
     ·simp only [cohousingref26_shape.l0, h1, h2, h3, h4, h, wrap_pred (show 0 < i by omega) (show i ≤ 140737488355328 by omega), if_true, wrap_nat (show i ≤ 140737488355328 by omega)]
      refine ih ⟨by omega, fun j hj1 hj => ?_⟩
      by_cases e : j = i
      ·rw [e]; exact h
      ·exact hn j hj1 (by omega)
     ·simp only [cohousingref26_shape.l0, h1, h2, h3, h4, h, wrap_pred (show 0 < i by omega) (show i ≤ 140737488355328 by omega), if_true, if_false]
      rw [decide_eq_false (fun hs => h ((hs.2.1 hc).2 i hi1 hi))]
      exact Ev.pure _
   exact key 1 (by omega) ⟨Nat.le_refl _, fun j h1 h2 => absurd h2 (by omega)⟩
  ·have hf' : ¬ Free pa (rd_T51 r.f1 0).f2 := hf
   simp only [decide_eq_false hf', Bool.false_eq_true, if_false]
   rw [decide_eq_false (fun hs => hf (hs.2.1 hc).1)]
   exact Ev.pure _
 | false =>
  simp only [Bool.false_eq_true, if_false]
  have key : ∀ i, i ≤ r.f1.length → ((∀ j, j < i → (mv r.f1 j).f1 ≠ 0 ∧ (mv r.f1 j).f2 = (mv r.f1 ((j + 1) % r.f1.length)).f1) → Ev (fun k => cohousingref26_shape.l1 k (r.f1.length : Int) (i : Int) false r.f1) (decide (ShapeR pa r))) := by
   refine loopUp r.f1.length _ ?_ ?_
   ·intro hn
    have h1 : ¬ (((r.f1.length : Nat) : Int) < (r.f1.length : Int)) := by omega
    refine Ev.step ?_
    simp only [cohousingref26_shape.l1, h1, if_false]
    rw [decide_eq_true (show ShapeR pa r from ⟨hp, (fun h => by rw [hc] at h; cases h), fun _ => hn⟩)]
    exact Ev.pure _
   ·intro i hi ih hn
    have h1 : (i : Int) < (r.f1.length : Int) := by omega
    have h2 : (0 : Int) ≤ (i : Int) := by omega
    have hm : Int.tmod ((i + 1 : Nat) : Int) (r.f1.length : Int) = (((i + 1) % r.f1.length : Nat) : Int) := by rw [Int.tmod_eq_emod_of_nonneg (by omega)]; exact (Int.natCast_emod _ _).symm
    have hlt := Nat.mod_lt (i + 1) hp
    have h3 : (0 : Int) ≤ (((i + 1) % r.f1.length : Nat) : Int) := Int.natCast_nonneg _
    have h4 : (((i + 1) % r.f1.length : Nat) : Int) < (r.f1.length : Int) := Int.ofNat_lt.2 hlt
    refine Ev.step ?_
    by_cases c1 : (rd_T51 r.f1 (i : Int)).f1 = 0
    ·simp only [cohousingref26_shape.l1, h1, h2, c1, if_true]
     rw [decide_eq_false (fun hs => (hs.2.2 hc i hi).1 c1)]
     exact Ev.pure _
    by_cases h : (rd_T51 r.f1 (i : Int)).f2 = (rd_T51 r.f1 (((i + 1) % r.f1.length : Nat) : Int)).f1
    ·simp only [cohousingref26_shape.l1, h1, h2, c1, h0, wrap_nat (show i ≤ 140737488355328 by omega), hm, h3, h4, h, if_true, if_false]
     refine ih (fun j hj => ?_)
     by_cases e : j = i
     ·rw [e]; exact ⟨c1, h⟩
     ·exact hn j (by omega)
    ·simp only [cohousingref26_shape.l1, h1, h2, c1, h0, wrap_nat (show i ≤ 140737488355328 by omega), hm, h3, h4, h, if_true, if_false]
     rw [decide_eq_false (fun hs => h (hs.2.2 hc i hi).2)]
     exact Ev.pure _
  exact key 0 (by omega) (fun j hj => absurd hj (Nat.not_lt_zero _))
def allM (l : List GT) : List MT := l.flatMap (fun r => r.f1)
theorem ahead_all (l : List GT) : ahead l l.length 0 = allM l := by unfold ahead allM; rw [List.take_length, List.take_zero, List.append_nil]
theorem ahead_pre (l : List GT) {n k : Nat} (hn : n < l.length) (hk : k ≤ (rg l n).f1.length) : ∃ t, allM l = ahead l n k ++ t := by
 refine ⟨(rg l n).f1.drop k ++ (l.drop (n + 1)).flatMap (fun r => r.f1), ?_⟩
 have e : l = l.take n ++ (rg l n :: l.drop (n + 1)) := by rw [rg_get l n hn, ← List.drop_eq_getElem_cons hn, List.take_append_drop]
 unfold allM ahead
 conv => lhs; rw [e]
 rw [List.flatMap_append, List.flatMap_cons, List.append_assoc, ← List.append_assoc ((rg l n).f1.take k), List.take_append_drop]
theorem ahead_snoc (l : List GT) {n k : Nat} (hk : k < (rg l n).f1.length) : ahead l n (k + 1) = ahead l n k ++ [mv (rg l n).f1 k] := ahead_succ l n k hk
theorem ahead_step (l : List GT) {n : Nat} (hn : n < l.length) : ahead l n (rg l n).f1.length = ahead l (n + 1) 0 := ahead_next l n hn
theorem nodup_ahead (f : MT → Int) (l : List GT) : ((allM l).map f).Nodup ↔ ∀ n, n < l.length → ∀ k, k < (rg l n).f1.length → f (mv (rg l n).f1 k) ∉ (ahead l n k).map f := by
 constructor
 ·intro h n hn k hk
  obtain ⟨t, e⟩ := ahead_pre l hn (show k + 1 ≤ (rg l n).f1.length by omega)
  rw [e, ahead_snoc l hk, List.map_append, List.map_append] at h
  have h1 := (List.nodup_append.1 h).1
  have h2 := (List.nodup_append.1 h1).2.2
  intro hm
  exact h2 _ hm _ (by simp) rfl
 ·intro h
  have key : ∀ n, n ≤ l.length → ((ahead l n 0).map f).Nodup := by
   intro n
   induction n with
   | zero => intro _; simp [ahead]
   | succ n ih =>
    intro hn
    have h0 := ih (by omega)
    have step : ∀ k, k ≤ (rg l n).f1.length → ((ahead l n k).map f).Nodup := by
     intro k
     induction k with
     | zero => intro _; exact h0
     | succ k ihk =>
      intro hk
      rw [ahead_snoc l (by omega), List.map_append]
      refine List.nodup_append.2 ⟨ihk (by omega), by simp, ?_⟩
      intro a ha b hb e
      have hb' : b = f (mv (rg l n).f1 k) := by simpa using hb
      rw [e, hb'] at ha
      exact h n (by omega) k (by omega) ha
    have := step (rg l n).f1.length (Nat.le_refl _)
    rwa [ahead_step l (by omega)] at this
  have := key l.length (Nat.le_refl _)
  rwa [ahead_all] at this
structure RingsR (fl : List FT) (pa : List PT) (l : List GT) : Prop where
 len : l.length ≤ 64
 fit : ∀ n, n < l.length → ∀ k, k < (rg l n).f1.length → MoveR fl pa (mv (rg l n).f1 k)
 homes : ((allM l).map (fun x => x.f0)).Nodup
 tos : ((allM l).map (fun x => x.f2)).Nodup
 shape : ∀ n, n < l.length → ShapeR pa (rg l n)
def RB (l : List GT) : Prop := (∀ i, i < l.length → (rg l i).f1.length ≤ 1000)
theorem ahead_len (l : List GT) (hR : RB l) : ∀ n, n ≤ l.length → (ahead l n 0).length ≤ 1000 * n := by
 intro n
 induction n with
 | zero => intro _; simp [ahead]
 | succ n ih =>
  intro hn
  have h0 := ih (by omega)
  have h1 := hR n (by omega)
  rw [← ahead_step l (by omega)]
  unfold ahead at h0 ⊢
  rw [List.length_append, List.length_take] at h0 ⊢
  omega
theorem Rings_f (fl : List FT) (pa : List PT) (l : List GT) (hF : fl.length ≤ 140737488355328) (hB : pa.length ≤ 140737488355328) (hR : RB l) : Ev (fun k => cohousingref26_Rings.f k fl pa l) (decide (RingsR fl pa l)) := by
 unfold cohousingref26_Rings.f
 by_cases hl : (l.length : Int) > 64
 ·simp only [hl, if_true]
  rw [decide_eq_false (fun h => by have := h.len; omega)]
  exact Ev.pure _
 simp only [hl, if_false]
 have key : ∀ n, n ≤ l.length → ((∀ m, m < n → ShapeR pa (rg l m) ∧ ∀ k, k < (rg l m).f1.length → MoveR fl pa (mv (rg l m).f1 k) ∧ (mv (rg l m).f1 k).f0 ∉ (ahead l m k).map (fun x => x.f0) ∧ (mv (rg l m).f1 k).f2 ∉ (ahead l m k).map (fun x => x.f2)) →
   Ev (fun k => cohousingref26_Rings.l0 k l ((ahead l n 0).map (fun x => x.f0)) ((ahead l n 0).map (fun x => x.f2)) (n : Int) fl pa) (decide (RingsR fl pa l))) := by
  refine loopUp l.length _ ?_ ?_
  ·intro hn
   have h1 : ¬ (((l.length : Nat) : Int) < (l.length : Int)) := by omega
   refine Ev.step ?_
   simp only [cohousingref26_Rings.l0, h1, if_false]
   rw [decide_eq_true ⟨by omega, fun n h k hk => ((hn n h).2 k hk).1, (nodup_ahead _ l).2 (fun n h k hk => ((hn n h).2 k hk).2.1), (nodup_ahead _ l).2 (fun n h k hk => ((hn n h).2 k hk).2.2), fun n h => (hn n h).1⟩]
   exact Ev.pure _
  ·intro n hlt ih hn
   have h1 : (n : Int) < (l.length : Int) := by omega
   have h2 : (0 : Int) ≤ (n : Int) := by omega
   have hlen := ahead_len l hR n (by omega)
   have hrn := hR n hlt
   have inner : ∀ m, m ≤ (rg l n).f1.length → ((∀ k, k < m → MoveR fl pa (mv (rg l n).f1 k) ∧ (mv (rg l n).f1 k).f0 ∉ (ahead l n k).map (fun x => x.f0) ∧ (mv (rg l n).f1 k).f2 ∉ (ahead l n k).map (fun x => x.f2)) →
     Ev (fun k => cohousingref26_Rings.l1 k l ((ahead l n m).map (fun x => x.f0)) ((ahead l n m).map (fun x => x.f2)) (n : Int) (m : Int) fl pa) (decide (RingsR fl pa l))) := by
    refine loopUp (rg l n).f1.length _ ?_ ?_
    ·intro hk
     have c1 : ¬ ((((rg l n).f1.length : Nat) : Int) < ((rg l n).f1.length : Int)) := by omega
     refine Ev.step ?_
     simp only [cohousingref26_Rings.l1, h1, h2, c1, if_true, if_false]
     refine Ev.bnd (shape_f fl pa (rg l n) hB (by omega)) ?_
     by_cases hs : ShapeR pa (rg l n)
     ·simp only [decide_eq_true hs, if_true, wrap_nat (show n ≤ 140737488355328 by omega)]
      rw [ahead_step l hlt]
      refine ih (fun m hm => ?_)
      by_cases e : m = n
      ·rw [e]; exact ⟨hs, hk⟩
      ·exact hn m (by omega)
     ·simp only [decide_eq_false hs, Bool.false_eq_true, if_false]
      rw [decide_eq_false (fun h => hs (h.shape n hlt))]
      exact Ev.pure _
    ·intro m hm ihm hk
     have c1 : (m : Int) < ((rg l n).f1.length : Int) := by omega
     have c2 : (0 : Int) ≤ (m : Int) := by omega
     have hlm : (ahead l n m).length ≤ 1000 * n + m := by
      unfold ahead at hlen ⊢
      rw [List.length_append, List.length_take] at hlen ⊢
      omega
     have hlh : ((ahead l n m).map (fun x => x.f0)).length < 17592186044416 := by rw [List.length_map]; omega
     have hlt2 : ((ahead l n m).map (fun x => x.f2)).length < 17592186044416 := by rw [List.length_map]; omega
     refine Ev.step ?_
     simp only [cohousingref26_Rings.l1, h1, h2, c1, c2, if_true]
     refine Ev.bnd (move_f fl pa (mv (rg l n).f1 m) hF hB) ?_
     by_cases d1 : MoveR fl pa (mv (rg l n).f1 m)
     ·simp only [decide_eq_true d1, if_true]
      refine Ev.bnd (In_f ((ahead l n m).map (fun x => x.f0)) (mv (rg l n).f1 m).f0 (by omega)) ?_
      by_cases d2 : (mv (rg l n).f1 m).f0 ∈ (ahead l n m).map (fun x => x.f0)
      ·have d2' := (inR_pos _ _).2 d2
       simp only [d2', if_true]
       rw [decide_eq_false (fun h => (nodup_ahead (fun x => x.f0) l).1 h.homes n hlt m hm d2)]
       exact Ev.pure _
      ·have d2' : ¬ (inR ((ahead l n m).map (fun x => x.f0)) (mv (rg l n).f1 m).f0 ≥ 0) := fun h => d2 ((inR_pos _ _).1 h)
       simp only [d2', if_false]
       refine Ev.bnd (In_f ((ahead l n m).map (fun x => x.f2)) (mv (rg l n).f1 m).f2 (by omega)) ?_
       by_cases d3 : (mv (rg l n).f1 m).f2 ∈ (ahead l n m).map (fun x => x.f2)
       ·have d3' := (inR_pos _ _).2 d3
        simp only [d3', if_true]
        rw [decide_eq_false (fun h => (nodup_ahead (fun x => x.f2) l).1 h.tos n hlt m hm d3)]
        exact Ev.pure _
       ·have d3' : ¬ (inR ((ahead l n m).map (fun x => x.f2)) (mv (rg l n).f1 m).f2 ≥ 0) := fun h => d3 ((inR_pos _ _).1 h)
        simp only [d3', hlh, hlt2, if_true, if_false, wrap_nat (show m ≤ 140737488355328 by omega)]
        have := ihm (fun k hk' => by
         by_cases e : k = m
         ·rw [e]; exact ⟨d1, d2, d3⟩
         ·exact hk k (by omega))
        rw [ahead_snoc l hm, List.map_append, List.map_append] at this
        exact this
     ·simp only [decide_eq_false d1, Bool.false_eq_true, if_false]
      rw [decide_eq_false (fun h => d1 (h.fit n hlt m hm))]
      exact Ev.pure _
   refine Ev.step ?_
   simp only [cohousingref26_Rings.l0, h1, if_true]
   exact inner 0 (by omega) (fun k hk => absurd hk (Nat.not_lt_zero _))
 exact key 0 (by omega) (fun m hm => absurd hm (Nat.not_lt_zero _))
theorem ringsB_iff {fl : List FT} {pa : List PT} (hM : Market fl pa) (l : List GT) : ringsB (homesM pa pa.length) (knownM fl fl.length) (occM pa pa.length) l = true ↔ RingsR fl pa l := by
 have hset : ∀ (f : MT → Int) (ms : List MT) (x : Int), (setB f ms x).getD false = decide (x ∈ ms.map f) := by
  intro f ms x
  unfold setB
  rw [show (ms.any fun m => f m == x) = decide (x ∈ ms.map f) from by
   rw [Bool.eq_iff_iff, List.any_eq_true, decide_eq_true_iff, List.mem_map]
   constructor
   ·rintro ⟨m, h1, h2⟩; exact ⟨m, h1, eq_of_beq h2⟩
   ·rintro ⟨m, h1, h2⟩; exact ⟨m, h1, beq_iff_eq.2 h2⟩]
  by_cases h : x ∈ ms.map f <;> simp [h]
 have hoff : ∀ (r : GT) (k : Nat), k < r.f1.length → (offB r k = false ↔ (r.f0 = true → 1 ≤ k → (mv r.f1 k).f2 = (mv r.f1 (k - 1)).f1) ∧ (r.f0 = false → (mv r.f1 k).f1 ≠ 0 ∧ (mv r.f1 k).f2 = (mv r.f1 ((k + 1) % r.f1.length)).f1)) := by
  intro r k hk
  have hm : Int.tmod ((k : Int) + 1) (r.f1.length : Int) = (((k + 1) % r.f1.length : Nat) : Int) := by rw [Int.tmod_eq_emod_of_nonneg (by omega)]; exact (Int.natCast_emod (k + 1) _).symm
  unfold offB
  rw [hm]
  cases hc : r.f0 with
  | true =>
   by_cases h0 : 0 < k
   ·have e : ((k : Int) - 1) = ((k - 1 : Nat) : Int) := by omega
    rw [e]
    simp [h0, mv]
    omega
   ·simp [h0]
    omega
  | false => simp [mv]
 have hend : ∀ r : GT, (0 < r.f1.length → HasF fl (mv r.f1 0).f2) → (endB (occM pa pa.length) r = true ↔ 0 < r.f1.length ∧ (r.f0 = true → Free pa (mv r.f1 0).f2)) := by
  intro r hh
  unfold endB
  rw [Bool.and_eq_true, decide_eq_true_iff]
  constructor
  ·rintro ⟨h1, h2⟩
   refine ⟨h1, fun hc => ?_⟩
   rw [hc, show (rd_T51 r.f1 0).f2 = (mv r.f1 0).f2 from rfl, occ_eq pa _ (by have := (hh h1).pos hM.flv; omega)] at h2
   simpa using h2
  ·rintro ⟨h1, h2⟩
   refine ⟨h1, ?_⟩
   rw [show (rd_T51 r.f1 0).f2 = (mv r.f1 0).f2 from rfl, occ_eq pa _ (by have := (hh h1).pos hM.flv; omega)]
   cases hc : r.f0 with
   | false => rfl
   | true => simp [h2 hc]
 have hmove : ∀ n k, n < l.length → k < (rg l n).f1.length → (moveB (homesM pa pa.length) (knownM fl fl.length) l n k = true ↔ MoveR fl pa (mv (rg l n).f1 k) ∧ (mv (rg l n).f1 k).f0 ∉ (ahead l n k).map (fun x => x.f0) ∧ (mv (rg l n).f1 k).f2 ∉ (ahead l n k).map (fun x => x.f2) ∧ offB (rg l n) k = false) := by
  intro n k hn hk
  unfold moveB
  rw [Bool.and_eq_true, Bool.and_eq_true, Bool.and_eq_true, hset, hset, fits_iff hM, moveR_iff hM]
  simp only [Bool.not_eq_true', decide_eq_false_iff_not, and_assoc]
 unfold ringsB
 rw [Bool.and_eq_true, decide_eq_true_iff, List.all_eq_true]
 simp only [List.mem_range]
 constructor
 ·rintro ⟨h1, h2⟩
  have hr : ∀ n, n < l.length → (∀ k, k < (rg l n).f1.length → moveB (homesM pa pa.length) (knownM fl fl.length) l n k = true) ∧ endB (occM pa pa.length) (rg l n) = true := by
   intro n hn
   have := h1 n hn
   unfold ringB at this
   rw [Bool.and_eq_true, List.all_eq_true] at this
   exact ⟨fun k hk => this.1 k (List.mem_range.2 hk), this.2⟩
  have hm := fun n hn k hk => (hmove n k hn hk).1 ((hr n hn).1 k hk)
  refine ⟨h2, fun n hn k hk => (hm n hn k hk).1, (nodup_ahead _ l).2 (fun n hn k hk => (hm n hn k hk).2.1), (nodup_ahead _ l).2 (fun n hn k hk => (hm n hn k hk).2.2.1), fun n hn => ?_⟩
  have he := (hend (rg l n) (fun hp => by obtain ⟨j, _, _, _, _, h⟩ := (hm n hn 0 hp).1; exact h)).1 (hr n hn).2
  have ho := fun k hk => (hoff (rg l n) k hk).1 (hm n hn k hk).2.2.2
  exact ⟨he.1, fun hc => ⟨he.2 hc, fun i h1 h2 => (ho i h2).1 hc h1⟩, fun hc i hi => (ho i hi).2 hc⟩
 ·intro h
  refine ⟨fun n hn => ?_, h.len⟩
  have hs := h.shape n hn
  unfold ringB
  rw [Bool.and_eq_true, List.all_eq_true]
  refine ⟨fun k hk => ?_, (hend (rg l n) (fun hp => by obtain ⟨j, _, _, _, _, h⟩ := h.fit n hn 0 hp; exact h)).2 ⟨hs.1, fun hc => (hs.2.1 hc).1⟩⟩
  have hk' := List.mem_range.1 hk
  exact (hmove n k hn hk').2 ⟨h.fit n hn k hk', (nodup_ahead _ l).1 h.homes n hn k hk', (nodup_ahead _ l).1 h.tos n hn k hk', (hoff (rg l n) k hk').2 ⟨fun hc h1 => (hs.2.1 hc).2 k h1 hk', fun hc => hs.2.2 hc k hk'⟩⟩
structure RepliesV (l : List YT) : Prop where
 len : l.length ≤ 1000
 one : ∀ n, n < l.length → 1 ≤ (ry l n).f0 ∧ (ry l n).f0 ≤ 3 ∧ 1 ≤ (ry l n).f1 ∧ (ry l n).f1 ≤ 64 ∧ 0 ≤ (ry l n).f2 ∧ (ry l n).f2 ≤ 36524
 asc : ∀ n, 0 < n → n < l.length → (ry l (n - 1)).f2 ≤ (ry l n).f2
theorem repliesB_iff (l : List YT) : repliesB l = true ↔ RepliesV l := by
 unfold repliesB
 rw [Bool.and_eq_true, decide_eq_true_iff, List.all_eq_true]
 have hx : ∀ n, replyAt l n = true ↔ replyP (lastD l n) (ry l n) := fun n => by unfold replyAt; exact decide_eq_true_iff
 simp only [List.mem_range, hx, replyP]
 constructor
 ·rintro ⟨h1, h2⟩
  have lo : ∀ n, n < l.length → 0 ≤ (ry l n).f2 := by
   intro n
   induction n with
   | zero => intro hn; have := (h1 0 hn).2.2.2.2.1; simpa [lastD] using this
   | succ n ih => intro hn; have h3 := ih (by omega); have h4 := (h1 (n + 1) hn).2.2.2.2.1; rw [lastD_succ] at h4; simp only [ry] at h3 h4 ⊢; omega
  refine ⟨h2, fun n hn => ?_, fun n h0 hn => ?_⟩
  ·have := h1 n hn
   exact ⟨this.1, this.2.1, this.2.2.1, this.2.2.2.1, lo n hn, this.2.2.2.2.2⟩
  ·have := (h1 n hn).2.2.2.2.1
   unfold lastD at this
   rwa [if_neg (by omega)] at this
 ·intro h
  refine ⟨fun n hn => ?_, h.len⟩
  have := h.one n hn
  refine ⟨this.1, this.2.1, this.2.2.1, this.2.2.2.1, ?_, this.2.2.2.2.2⟩
  unfold lastD
  by_cases e : n = 0
  ·rw [if_pos e]; exact this.2.2.2.2.1
  ·rw [if_neg e]; exact h.asc n (by omega) hn
theorem Replies_f (l : List YT) : Ev (fun k => cohousingref26_Replies.f k l) (decide (RepliesV l)) := by
 unfold cohousingref26_Replies.f
 by_cases hl : (l.length : Int) > 1000
 ·simp only [hl, if_true]
  rw [decide_eq_false (fun h => by have := h.len; omega)]
  exact Ev.pure _
 simp only [hl, if_false]
 have key : ∀ i, i ≤ l.length → ((∀ n, n < i → (1 ≤ (ry l n).f0 ∧ (ry l n).f0 ≤ 3 ∧ 1 ≤ (ry l n).f1 ∧ (ry l n).f1 ≤ 64 ∧ 0 ≤ (ry l n).f2 ∧ (ry l n).f2 ≤ 36524) ∧ (0 < n → (ry l (n - 1)).f2 ≤ (ry l n).f2)) → Ev (fun k => cohousingref26_Replies.l0 k l (i : Int)) (decide (RepliesV l))) := by
  refine loopUp l.length _ ?_ ?_
  ·intro hn
   have h1 : ¬ (((l.length : Nat) : Int) < (l.length : Int)) := by omega
   refine Ev.step ?_
   simp only [cohousingref26_Replies.l0, h1, if_false]
   rw [decide_eq_true ⟨by omega, fun n h => (hn n h).1, fun n h0 h => (hn n h).2 h0⟩]
   exact Ev.pure _
  ·intro i hi ih hn
   have h1 : (i : Int) < (l.length : Int) := by omega
   have h2 : (0 : Int) ≤ (i : Int) := by omega
   have fa : ∀ P : Prop, (P → ¬ (1 ≤ (ry l i).f0 ∧ (ry l i).f0 ≤ 3 ∧ 1 ≤ (ry l i).f1 ∧ (ry l i).f1 ≤ 64 ∧ 0 ≤ (ry l i).f2 ∧ (ry l i).f2 ≤ 36524)) → P → decide (RepliesV l) = false := fun P h hP => decide_eq_false (fun hv => h hP (hv.one i hi))
   refine Ev.step ?_
   by_cases c1 : (rd_T55 l (i : Int)).f0 < 1
   ·simp only [cohousingref26_Replies.l0, h1, h2, c1, if_true]
    rw [fa _ (fun h => by simp only [ry]; omega) c1]
    exact Ev.pure _
   by_cases c2 : (rd_T55 l (i : Int)).f0 > 3
   ·simp only [cohousingref26_Replies.l0, h1, h2, c1, c2, if_true, if_false]
    rw [fa _ (fun h => by simp only [ry]; omega) c2]
    exact Ev.pure _
   by_cases c3 : (rd_T55 l (i : Int)).f1 < 1
   ·simp only [cohousingref26_Replies.l0, h1, h2, c1, c2, c3, if_true, if_false]
    rw [fa _ (fun h => by simp only [ry]; omega) c3]
    exact Ev.pure _
   by_cases c4 : (rd_T55 l (i : Int)).f1 > 64
   ·simp only [cohousingref26_Replies.l0, h1, h2, c1, c2, c3, c4, if_true, if_false]
    rw [fa _ (fun h => by simp only [ry]; omega) c4]
    exact Ev.pure _
   by_cases c5 : (rd_T55 l (i : Int)).f2 < 0
   ·simp only [cohousingref26_Replies.l0, h1, h2, c1, c2, c3, c4, c5, if_true, if_false]
    rw [fa _ (fun h => by simp only [ry]; omega) c5]
    exact Ev.pure _
   by_cases c6 : (rd_T55 l (i : Int)).f2 > 36524
   ·simp only [cohousingref26_Replies.l0, h1, h2, c1, c2, c3, c4, c5, c6, if_true, if_false]
    rw [fa _ (fun h => by simp only [ry]; omega) c6]
    exact Ev.pure _
   have ok1 : 1 ≤ (ry l i).f0 ∧ (ry l i).f0 ≤ 3 ∧ 1 ≤ (ry l i).f1 ∧ (ry l i).f1 ≤ 64 ∧ 0 ≤ (ry l i).f2 ∧ (ry l i).f2 ≤ 36524 := by simp only [ry]; omega
   have go : (0 < i → (ry l (i - 1)).f2 ≤ (ry l i).f2) → Ev (fun k => cohousingref26_Replies.l0 k l ((i + 1 : Nat) : Int)) (decide (RepliesV l)) := fun ha => ih (fun n hn' => by
    by_cases e : n = i
    ·rw [e]; exact ⟨ok1, ha⟩
    ·exact hn n (by omega))
   by_cases c7 : 0 < i
   ·have h3 : (i : Int) > 0 := by omega
    have h4 : (0 : Int) ≤ ((i - 1 : Nat) : Int) := by omega
    have h5 : ((i - 1 : Nat) : Int) < (l.length : Int) := by omega
    by_cases c8 : (rd_T55 l (i : Int)).f2 < (rd_T55 l ((i - 1 : Nat) : Int)).f2
    ·simp only [cohousingref26_Replies.l0, h1, h2, c1, c2, c3, c4, c5, c6, h3, wrap_pred c7 (show i ≤ 140737488355328 by omega), h4, h5, c8, if_true, if_false]
     rw [decide_eq_false (fun hv => by have := hv.asc i c7 hi; simp only [ry] at this; omega)]
     exact Ev.pure _
    ·simp only [cohousingref26_Replies.l0, h1, h2, c1, c2, c3, c4, c5, c6, h3, wrap_pred c7 (show i ≤ 140737488355328 by omega), h4, h5, c8, if_true, if_false, wrap_nat (show i ≤ 140737488355328 by omega)]
     exact go (fun _ => by simp only [ry]; omega)
   ·have h3 : ¬ ((i : Int) > 0) := by omega
    simp only [cohousingref26_Replies.l0, h1, h2, c1, c2, c3, c4, c5, c6, h3, if_true, if_false, wrap_nat (show i ≤ 140737488355328 by omega)]
    exact go (fun h => absurd h c7)
 exact key 0 (by omega) (fun j hj => absurd hj (Nat.not_lt_zero _))
structure Usable (fl : List FT) (pa : List PT) (l : List GT) (rs : List YT) : Prop where
 fm : FewM fl pa
 fr : FewR l rs
 m : Market fl pa
 r : RingsR fl pa l
 y : RepliesV rs
theorem FewR.rb {l : List GT} {rs : List YT} (h : FewR l rs) : RB l := fun i hi => by have := h.m i hi; omega
theorem usable_f (fl : List FT) (pa : List PT) (l : List GT) (rs : List YT) : Ev (fun k => cohousinglaw26_usable.f k fl pa l rs) (decide (Usable fl pa l rs)) := by
 unfold cohousinglaw26_usable.f
 refine Ev.bnd (FewM_f fl pa) ?_
 by_cases h1 : FewM fl pa
 ·simp only [decide_eq_true h1, if_true]
  refine Ev.bnd (FewR_f l rs) ?_
  by_cases h2 : FewR l rs
  ·simp only [decide_eq_true h2, if_true]
   have e1 := h1.f
   have e2 := h1.p
   refine Ev.bnd (Valid_f fl pa (by omega) h1.wb) ?_
   by_cases h3 : Market fl pa
   ·simp only [decide_eq_true h3, if_true]
    refine Ev.bnd (Rings_f fl pa l (by omega) (by omega) h2.rb) ?_
    by_cases h4 : RingsR fl pa l
    ·simp only [decide_eq_true h4, if_true]
     refine Ev.bnd (Replies_f rs) ?_
     rw [show decide (Usable fl pa l rs) = decide (RepliesV rs) from decide_eq_decide.2 ⟨fun h => h.y, fun h => ⟨h1, h2, h3, h4, h⟩⟩]
     exact Ev.pure _
    ·simp only [decide_eq_false h4, Bool.false_eq_true, if_false]
     rw [decide_eq_false (fun h : Usable fl pa l rs => h4 h.r)]
     exact Ev.pure _
   ·simp only [decide_eq_false h3, Bool.false_eq_true, if_false]
    rw [decide_eq_false (fun h : Usable fl pa l rs => h3 h.m)]
    exact Ev.pure _
  ·simp only [decide_eq_false h2, Bool.false_eq_true, if_false]
   rw [decide_eq_false (fun h : Usable fl pa l rs => h2 h.fr)]
   exact Ev.pure _
 ·simp only [decide_eq_false h1, Bool.false_eq_true, if_false]
  rw [decide_eq_false (fun h : Usable fl pa l rs => h1 h.fm)]
  exact Ev.pure _
end Go.Proofs.Ytocbiggglnpeoaa.P
end
section
namespace Go.Proofs.Ytocbiggglnpeoaa.P
open Go.RowKit Go.Proofs.YtocbiggglnpeoaaW.PrintWords Go.Proofs.YtocbiggglnpeoaaW.PrintLast Go.Proofs.YtocbiggglnpeoaaW.PrintMore
attribute [local go_sem] max2_int min2_int max_two min_two max_three min_three max_four min_four
set_option linter.unusedVariables false
set_option linter.unusedSimpArgs false
set_option maxHeartbeats 8000000
set_option maxRecDepth 100000
section
mutual
def cohousingref26_Agrees.l0 : Nat → List (S55) → Int → Int → Bool → Int → Option (Bool)
 | 0, _, _, _, _, _ => none
 | k + 1, x0, x1, x2, x7, x8 => if x8 < (x0.length : Int) then (if 0 ≤ x8 then (if ((rd_T55 x0 x8).f1) = x1 then (cohousingref26_Agrees.j1 k x0 x1 x2 x7 x8 (decide (((rd_T55 x0 x8).f2) > x2))) else (cohousingref26_Agrees.j1 k x0 x1 x2 x7 x8 true)) else (none)) else (some x7)
def cohousingref26_Agrees.j1 : Nat → List (S55) → Int → Int → Bool → Int → Bool → Option (Bool)
 | 0, _, _, _, _, _, _ => none
 | k + 1, x0, x1, x2, x7, x8, x30 => if x30 = true then (cohousingref26_Agrees.l0 k x0 x1 x2 x7 (wrap64 (x8 + 1))) else (if 0 ≤ x8 then (if x8 < (x0.length : Int) then (if ((rd_T55 x0 x8).f0) = 3 then (some false) else (cohousingref26_Agrees.l0 k x0 x1 x2 (((rd_T55 x0 x8).f0) == 1) (wrap64 (x8 + 1)))) else (none)) else (none))
end
def cohousingref26_Agrees.f (k : Nat) (l0 : List (S55)) (a1 : Int) (a2 : Int) : Option (Bool) := cohousingref26_Agrees.l0 k l0 a1 a2 false 0
theorem cohousingref26_Agrees.calls (k : Nat) (A0 : Option Addr) (c0 : Nat) (l0 : List (S55)) (a1 : Int) (a2 : Int) (r : Bool) (w : World) (hr0 : Kd.C k55 w A0 l0.length l0) (hc0 : l0.length ≤ c0) (h : cohousingref26_Agrees.f k l0 a1 a2 = some r) :
  Calls Try.prog 23 #[.slice A0 l0.length c0, .int .i64 a1, .int .i64 a2] w fun e w' => e = .returned (.bool r) ∧ Drawn0 w w' := by
 have HR0 := Aside0.mk hr0
 have HC0 := Aside0.mk hc0
 clear hr0 hc0
 have H : (cohousingref26_Agrees.l0 k l0 a1 a2 false 0) = some r := h
 clear h
 have H' := Aside0.mk H
 clear H
 go_enter Try.func23, Try.ntmps23
 go_wp2
 go_loopg [7, 8] k (fun kq v7 v8 w' => ∃ (x7_1 : Bool) (x8_1 : Int), v7 = .bool x7_1 ∧ v8 = .int .i64 x8_1 ∧ Aside0 (cohousingref26_Agrees.l0 kq l0 a1 a2 x7_1 x8_1 = some r) ∧ Aside0 (kq ≤ k) ∧ Drawn0 w w')
 case atStart => exact ⟨(false), (0), sd_, sd_, H', ⟨Nat.le_refl _⟩, by repeat (first | exact Drawn0.refl _ | apply Drawn0.step)⟩
 case round =>
  clear H'
  try clear c2
  try clear p2
  obtain ⟨x7_1, x8_1, rfl, rfl, HA, HK1, ⟨m1, rfl⟩⟩ := hrel
  cases gk with
  | zero => exact absurd HA.out (by simp [cohousingref26_Agrees.l0])
  | succ k1 =>
   have H := HA.out
   clear HA
   simp only [cohousingref26_Agrees.l0] at H
   by_cases c4 : x8_1 < (l0.length : Int)
   ·rw [if_pos c4] at H
    have c4b0 : decide (x8_1 < (l0.length : Int)) = true := decide_eq_true c4
    clear c4
    have HC5 := Aside0.mk H
    clear H
    go_upto_region 5 with (fail)
    go_cut [30] (fun v30 wc => ∃ (kq : Nat) (x30_4 : Bool), v30 = .bool x30_4 ∧ Aside0 (cohousingref26_Agrees.j1 kq l0 a1 a2 x7_1 x8_1 x30_4 = some r) ∧ Aside0 (kq ≤ k1) ∧ Drawn0 w wc)
    case first =>
     have H := HC5.out
     clear HC5
     by_cases c6 : 0 ≤ x8_1
     ·rw [if_pos c6] at H
      have c6b0 : decide (0 ≤ x8_1) = true := decide_eq_true c6
      clear c6
      (first | rw [c6b0] | (simp only [i64_w, i32_w]; rw [c6b0]) | skip)
      by_cases c7 : ((rd_T55 l0 x8_1).f1) = a1
      ·rw [if_pos c7] at H
       have c7b0 : (((rd_T55 l0 x8_1).f1) == a1) = true := beq_iff_eq.mpr c7
       have c7b1 : (((rd_T55 l0 x8_1).f1) != a1) = false := bne_eq_false_iff_eq.mpr c7
       clear c7
       have H' := Aside0.mk H
       clear H
       have p199 : 0 ≤ (x8_1 : Int) := od_
       have q199 : x8_1 < (l0.length : Int) := od_
       obtain ⟨ad199, e199, hx199_0, hx199_1, hx199_2⟩ := at_T55 HR0.out x8_1 p199 q199
       cases e199
       replace p199 := eq_true p199
       replace q199 := eq_true q199
       have p200 : 0 ≤ (x8_1 : Int) := od_
       have q200 : x8_1 < (l0.length : Int) := od_
       obtain ⟨ad200, e200, hx200_0, hx200_1, hx200_2⟩ := at_T55 HR0.out x8_1 p200 q200
       obtain rfl : ad199 = ad200 := (by injection e200)
       replace p200 := eq_true p200
       replace q200 := eq_true q200
       go_wp2
       go_meet
       case rel => exact ⟨_, (decide (((rd_T55 l0 x8_1).f2) > a2)), sd_, H', ⟨by have := HK1.out; first | omega | exact Nat.le_refl _⟩, by repeat (first | exact Drawn0.refl _ | apply Drawn0.step)⟩
      ·rw [if_neg c7] at H
       have c7b0 : (((rd_T55 l0 x8_1).f1) == a1) = false := beq_eq_false_iff_ne.mpr c7
       have c7b1 : (((rd_T55 l0 x8_1).f1) != a1) = true := bne_iff_ne.mpr c7
       have H' := Aside0.mk H
       clear H
       have p199 : 0 ≤ (x8_1 : Int) := od_
       have q199 : x8_1 < (l0.length : Int) := od_
       obtain ⟨ad199, e199, hx199_0, hx199_1, hx199_2⟩ := at_T55 HR0.out x8_1 p199 q199
       cases e199
       replace p199 := eq_true p199
       replace q199 := eq_true q199
       go_wp2
       go_meet
       case rel => exact ⟨_, (true), sd_, H', ⟨by have := HK1.out; first | omega | exact Nat.le_refl _⟩, by repeat (first | exact Drawn0.refl _ | apply Drawn0.step)⟩
     ·rw [if_neg c6] at H
      exact absurd H (by simp)
    case rest =>
     clear HC5
     try clear p1
     try clear q1
     try clear hx1
     try clear c2
     try clear p2
     try clear q2
     try clear hx2
     try clear c4
     try clear c4b0
     try clear c6
     try clear c6b0
     try clear c7
     try clear c7b0
     try clear c7b1
     try clear hx199_0
     try clear hx199_1
     try clear hx199_2
     try clear hx200_0
     try clear hx200_1
     try clear hx200_2
     try clear p199
     try clear p2
     try clear p200
     try clear q199
     try clear q200
     obtain ⟨kq, x30_4, rfl, HA, HJ4, ⟨mc4, rfl⟩⟩ := hcut
     cases kq with
     | zero => exact absurd HA.out (by simp [cohousingref26_Agrees.j1])
     | succ kj4 =>
      have H := HA.out
      clear HA
      simp only [cohousingref26_Agrees.j1] at H
      by_cases c8 : x30_4 = true
      ·subst c8
       have H1 : (cohousingref26_Agrees.l0 kj4 l0 a1 a2 x7_1 (wrap64 (x8_1 + 1))) = some r := by rw [if_pos rfl] at H; exact H
       clear H
       have H := H1
       clear H1
       have H' := Aside0.mk H
       clear H
       go_wp2
       go_roundg kj4
       case measure => have := HK1.out; have := HJ4.out; omega
       case rel => exact ⟨(x7_1), (wrap64 (x8_1 + 1)), sd_, sd_, H', ⟨by have := HK1.out; have := HJ4.out; omega⟩, by repeat (first | exact Drawn0.refl _ | apply Drawn0.step)⟩
      ·replace c8 := Bool.eq_false_iff.mpr c8
       subst c8
       have H1 : (if 0 ≤ x8_1 then (if x8_1 < (l0.length : Int) then (if ((rd_T55 l0 x8_1).f0) = 3 then (some false) else (cohousingref26_Agrees.l0 kj4 l0 a1 a2 (((rd_T55 l0 x8_1).f0) == 1) (wrap64 (x8_1 + 1)))) else (none)) else (none)) = some r := by rw [if_neg (show ¬ (false = true) by decide)] at H; exact H
       clear H
       have H := H1
       clear H1
       by_cases c9 : 0 ≤ x8_1
       ·rw [if_pos c9] at H
        have c9b0 : decide (0 ≤ x8_1) = true := decide_eq_true c9
        clear c9
        by_cases c10 : x8_1 < (l0.length : Int)
        ·rw [if_pos c10] at H
         have c10b0 : decide (x8_1 < (l0.length : Int)) = true := decide_eq_true c10
         clear c10
         by_cases c11 : ((rd_T55 l0 x8_1).f0) = 3
         ·rw [if_pos c11] at H
          have c11b0 : (((rd_T55 l0 x8_1).f0) == 3) = true := beq_iff_eq.mpr c11
          have c11b1 : (((rd_T55 l0 x8_1).f0) != 3) = false := bne_eq_false_iff_eq.mpr c11
          clear c11
          obtain rfl := Option.some.inj H
          have p201 : 0 ≤ (x8_1 : Int) := od_
          have q201 : x8_1 < (l0.length : Int) := od_
          obtain ⟨ad201, e201, hx201_0, hx201_1, hx201_2⟩ := at_T55 HR0.out x8_1 p201 q201
          cases e201
          replace p201 := eq_true p201
          replace q201 := eq_true q201
          go_wp2
          go_ret
          exact ⟨by first | rfl | (simp; done) | (simp [*]; done), by repeat (first | exact Drawn0.refl _ | apply Drawn0.step)⟩
         ·rw [if_neg c11] at H
          have c11b0 : (((rd_T55 l0 x8_1).f0) == 3) = false := beq_eq_false_iff_ne.mpr c11
          have c11b1 : (((rd_T55 l0 x8_1).f0) != 3) = true := bne_iff_ne.mpr c11
          have H' := Aside0.mk H
          clear H
          have p201 : 0 ≤ (x8_1 : Int) := od_
          have q201 : x8_1 < (l0.length : Int) := od_
          obtain ⟨ad201, e201, hx201_0, hx201_1, hx201_2⟩ := at_T55 HR0.out x8_1 p201 q201
          cases e201
          replace p201 := eq_true p201
          replace q201 := eq_true q201
          have p202 : 0 ≤ (x8_1 : Int) := od_
          have q202 : x8_1 < (l0.length : Int) := od_
          obtain ⟨ad202, e202, hx202_0, hx202_1, hx202_2⟩ := at_T55 HR0.out x8_1 p202 q202
          obtain rfl : ad201 = ad202 := (by injection e202)
          replace p202 := eq_true p202
          replace q202 := eq_true q202
          go_wp2
          go_roundg kj4
          case measure => have := HK1.out; have := HJ4.out; omega
          case rel => exact ⟨((((rd_T55 l0 x8_1).f0) == 1)), (wrap64 (x8_1 + 1)), sd_, sd_, H', ⟨by have := HK1.out; have := HJ4.out; omega⟩, by repeat (first | exact Drawn0.refl _ | apply Drawn0.step)⟩
        ·rw [if_neg c10] at H
         exact absurd H (by simp)
       ·rw [if_neg c9] at H
        exact absurd H (by simp)
   ·rw [if_neg c4] at H
    have c4b0 : decide (x8_1 < (l0.length : Int)) = false := decide_eq_false c4
    clear c4
    obtain rfl := Option.some.inj H
    go_wp2
    go_ret
    exact ⟨by first | rfl | (simp; done) | (simp [*]; done), by repeat (first | exact Drawn0.refl _ | apply Drawn0.step)⟩
end
end Go.Proofs.Ytocbiggglnpeoaa.P
end
section
namespace Go.Proofs.Ytocbiggglnpeoaa.P
open Go.RowKit Go.Proofs.YtocbiggglnpeoaaW.PrintWords Go.Proofs.YtocbiggglnpeoaaW.PrintLast Go.Proofs.YtocbiggglnpeoaaW.PrintMore Go.Proofs.YtocbiggglnpeoaaH
open Classical
def stA (rs : List YT) (due h : Int) (n : Nat) : Bool × Bool := (repM rs due n h).getD (false, false)
theorem stA_succ (rs : List YT) (due h : Int) (n : Nat) : stA rs due h (n + 1) = if (ry rs n).f2 ≤ due ∧ (ry rs n).f1 = h then ((ry rs n).f0 == 1, (stA rs due h n).2 || (ry rs n).f0 == 3) else stA rs due h n := by
 unfold stA
 rw [repM_succ]
 by_cases c1 : (rd_T55 rs (n : Int)).f2 ≤ due
 ·rw [if_pos c1]
  unfold upd
  by_cases c2 : h = (rd_T55 rs (n : Int)).f1
  ·rw [if_pos c2, if_pos ⟨c1, c2.symm⟩, ← c2]
   rfl
  ·rw [if_neg c2, if_neg (fun e => c2 e.2.symm)]
 ·rw [if_neg c1, if_neg (fun e => c1 e.1)]
def agB (rs : List YT) (due h : Int) : Bool := (stA rs due h rs.length).1 && !(stA rs due h rs.length).2
theorem refB_eq (rs : List YT) (due : Int) (x : MT) : refB (repM rs due rs.length) x = !agB rs due x.f0 := by
 unfold refB agB stA
 cases ((repM rs due rs.length x.f0).getD (false, false)).1 <;> cases ((repM rs due rs.length x.f0).getD (false, false)).2 <;> rfl
theorem stA_dead (rs : List YT) (due h : Int) (n : Nat) (hd : (stA rs due h n).2 = true) : ∀ d, (stA rs due h (n + d)).2 = true := by
 intro d
 induction d with
 | zero => exact hd
 | succ d ih =>
  rw [← Nat.add_assoc, stA_succ]
  split
  ·simp [ih]
  ·exact ih
theorem Agrees_f (rs : List YT) (h due : Int) (hB : rs.length ≤ 140737488355328) : Ev (fun k => cohousingref26_Agrees.f k rs h due) (agB rs due h) := by
 have key : ∀ i, i ≤ rs.length → ((stA rs due h i).2 = false → Ev (fun k => cohousingref26_Agrees.l0 k rs h due (stA rs due h i).1 (i : Int)) (agB rs due h)) := by
  refine loopUp rs.length _ ?_ ?_
  ·intro hd
   have h1 : ¬ (((rs.length : Nat) : Int) < (rs.length : Int)) := by omega
   refine Ev.step ?_
   simp only [cohousingref26_Agrees.l0, h1, if_false]
   unfold agB
   rw [hd, Bool.not_false, Bool.and_true]
   exact Ev.pure _
  ·intro i hi ih hd
   have h1 : (i : Int) < (rs.length : Int) := by omega
   have h2 : (0 : Int) ≤ (i : Int) := by omega
   have skip : ¬ ((ry rs i).f2 ≤ due ∧ (ry rs i).f1 = h) → Ev (fun k => cohousingref26_Agrees.j1 k rs h due (stA rs due h i).1 (i : Int) true) (agB rs due h) := fun hs => by
    refine Ev.step ?_
    simp only [cohousingref26_Agrees.j1, if_true, wrap_nat (show i ≤ 140737488355328 by omega)]
    have e : stA rs due h (i + 1) = stA rs due h i := by rw [stA_succ, if_neg hs]
    rw [e] at ih
    exact ih hd
   refine Ev.step ?_
   by_cases c1 : (rd_T55 rs (i : Int)).f1 = h
   ·simp only [cohousingref26_Agrees.l0, h1, h2, c1, if_true]
    by_cases c2 : (rd_T55 rs (i : Int)).f2 > due
    ·rw [decide_eq_true c2]
     exact skip (fun hs => by have := hs.1; simp only [ry] at this; omega)
    ·rw [decide_eq_false c2]
     have hin : (ry rs i).f2 ≤ due ∧ (ry rs i).f1 = h := ⟨by simp only [ry]; omega, c1⟩
     refine Ev.step ?_
     by_cases c3 : (rd_T55 rs (i : Int)).f0 = 3
     ·simp only [cohousingref26_Agrees.j1, h1, h2, c3, if_true, Bool.false_eq_true, if_false]
      have e : (stA rs due h (i + 1)).2 = true := by rw [stA_succ, if_pos hin]; simp [ry, c3]
      have := stA_dead rs due h (i + 1) e (rs.length - (i + 1))
      rw [show i + 1 + (rs.length - (i + 1)) = rs.length by omega] at this
      unfold agB
      rw [this, Bool.not_true, Bool.and_false]
      exact Ev.pure _
     ·simp only [cohousingref26_Agrees.j1, h1, h2, c3, if_true, Bool.false_eq_true, if_false, wrap_nat (show i ≤ 140737488355328 by omega)]
      have e : stA rs due h (i + 1) = ((rd_T55 rs (i : Int)).f0 == 1, false) := by rw [stA_succ, if_pos hin, hd]; simp [ry, c3]
      rw [e] at ih
      exact ih rfl
   ·simp only [cohousingref26_Agrees.l0, h1, h2, c1, if_true, if_false]
    exact skip (fun hs => c1 hs.2)
 exact key 0 (by omega) rfl
theorem idx_is (p : MT → Bool) (l : List MT) : (idxB51 p l = -1 ∧ ∀ k, k < l.length → p (mv l k) = false) ∨ ∃ j : Nat, j < l.length ∧ idxB51 p l = j ∧ p (mv l j) = true ∧ ∀ k, k < j → p (mv l k) = false := by
 unfold idxB51
 cases h : l.findIdx? p with
 | none =>
  refine .inl ⟨rfl, fun k hk => ?_⟩
  rw [mv_get l k hk]
  exact List.findIdx?_eq_none_iff.1 h _ (List.getElem_mem hk)
 | some j =>
  obtain ⟨h1, h2, h3⟩ := List.findIdx?_eq_some_iff_getElem.1 h
  refine .inr ⟨j, h1, rfl, ?_, fun k hk => ?_⟩
  ·rw [mv_get l j h1]; exact h2
  ·have hk' : k < l.length := by omega
   rw [mv_get l k hk']
   have := h3 k hk
   cases hx : p l[k] with
   | false => rfl
   | true => exact absurd hx this
inductive Told (rs : List YT) (due : Int) (r : GT) : Nat → Bool → Prop
 | all (h : ∀ k, k < r.f1.length → agB rs due (mv r.f1 k).f0 = true) : Told rs due r r.f1.length false
 | chain (n : Nat) (hn : n < r.f1.length) (hc : r.f0 = true) (h : ∀ k, k < n → agB rs due (mv r.f1 k).f0 = true) (hno : agB rs due (mv r.f1 n).f0 = false) : Told rs due r n true
 | cycle (n : Nat) (hn : n < r.f1.length) (hc : r.f0 = false) (hno : agB rs due (mv r.f1 n).f0 = false) : Told rs due r 0 true
theorem told_ring (rs : List YT) (due : Int) (r : GT) : Told rs due r (nOf (repM rs due rs.length) r) (brk (repM rs due rs.length) r) := by
 have hr : ∀ k, refB (repM rs due rs.length) (mv r.f1 k) = !agB rs due (mv r.f1 k).f0 := fun k => refB_eq rs due _
 unfold nOf brk
 rcases idx_is (refB (repM rs due rs.length)) r.f1 with ⟨e, h⟩ | ⟨j, hj, e, h1, h2⟩
 ·rw [e, if_pos (by omega), decide_eq_false (by omega)]
  refine .all (fun k hk => ?_)
  have := h k hk
  rw [hr] at this
  simpa using this
 ·rw [e, if_neg (by omega), decide_eq_true (by omega)]
  have hno : agB rs due (mv r.f1 j).f0 = false := by rw [hr] at h1; simpa using h1
  cases hc : r.f0 with
  | true =>
   rw [if_pos rfl, Int.toNat_natCast]
   exact .chain j hj hc (fun k hk => by have := h2 k hk; rw [hr] at this; simpa using this) hno
  | false =>
   rw [if_neg (by decide)]
   exact .cycle j hj hc hno
theorem Told.le {rs : List YT} {due : Int} {r : GT} {n : Nat} {b : Bool} (h : Told rs due r n b) : n ≤ r.f1.length := by
 cases h with
 | all _ => exact Nat.le_refl _
 | chain n hn _ _ _ => omega
 | cycle n hn _ _ => omega
theorem Told.yes {rs : List YT} {due : Int} {r : GT} {n : Nat} {b : Bool} (h : Told rs due r n b) : ∀ k, k < n → agB rs due (mv r.f1 k).f0 = true := by
 cases h with
 | all h => exact h
 | chain n hn _ h _ => exact h
 | cycle n hn _ _ => exact fun k hk => absurd hk (Nat.not_lt_zero _)
theorem Told.full {rs : List YT} {due : Int} {r : GT} {n : Nat} {b : Bool} (h : Told rs due r n b) (hc : r.f0 = false) (h0 : 0 < n) : n = r.f1.length := by
 cases h with
 | all _ => rfl
 | chain n hn hc' _ _ => rw [hc] at hc'; cases hc'
 | cycle _ _ _ _ => exact absurd h0 (Nat.not_lt_zero _)
abbrev nR (rs : List YT) (due : Int) (r : GT) : Nat := nOf (repM rs due rs.length) r
abbrev bR (rs : List YT) (due : Int) (r : GT) : Bool := brk (repM rs due rs.length) r
abbrev goR (rs : List YT) (due : Int) (l : List GT) (n : Nat) : List MT := goM (repM rs due rs.length) l n
abbrev brR (rs : List YT) (due : Int) (l : List GT) (n : Nat) : List Int := brM (repM rs due rs.length) l n
theorem mv_mem {ms : List MT} {k : Nat} (h : k < ms.length) : mv ms k ∈ ms := by rw [mv_get ms k h]; exact List.getElem_mem h
theorem mem_take {ms : List MT} {n : Nat} {x : MT} (hn : n ≤ ms.length) : x ∈ ms.take n ↔ ∃ k, k < n ∧ x = mv ms k := by
 rw [List.mem_iff_getElem]
 constructor
 ·rintro ⟨k, hk, e⟩
  rw [List.length_take] at hk
  exact ⟨k, by omega, by rw [mv_get ms k (by omega), ← e, List.getElem_take]⟩
 ·rintro ⟨k, hk, e⟩
  exact ⟨k, by rw [List.length_take]; omega, by rw [List.getElem_take, e, mv_get ms k (by omega)]⟩
theorem mem_goR {rs : List YT} {due : Int} {l : List GT} {x : MT} : ∀ m, x ∈ goR rs due l m ↔ ∃ n, n < m ∧ ∃ k, k < nR rs due (rg l n) ∧ x = mv (rg l n).f1 k
 | 0 => by
  constructor
  ·intro h; cases h
  ·rintro ⟨n, hn, _⟩; exact absurd hn (Nat.not_lt_zero _)
 | m + 1 => by
  show x ∈ goM _ l (m + 1) ↔ _
  rw [goM_succ, List.mem_append, mem_goR m, mem_take (told_ring rs due (rg l m)).le]
  constructor
  ·rintro (⟨n, hn, h⟩ | ⟨k, hk, e⟩)
   ·exact ⟨n, by omega, h⟩
   ·exact ⟨m, by omega, k, hk, e⟩
  ·rintro ⟨n, hn, k, hk, e⟩
   by_cases h : n = m
   ·subst h; exact .inr ⟨k, hk, e⟩
   ·exact .inl ⟨n, by omega, k, hk, e⟩
theorem goR_sub (rs : List YT) (due : Int) (l : List GT) : ∀ n, n ≤ l.length → (goR rs due l n).Sublist (ahead l n 0) := by
 intro n
 induction n with
 | zero => intro _; exact List.nil_sublist _
 | succ n ih =>
  intro hn
  rw [← ahead_step l (by omega)]
  show (goM _ l (n + 1)).Sublist _
  rw [goM_succ]
  have h0 := ih (by omega)
  unfold ahead at h0 ⊢
  rw [List.take_zero, List.append_nil] at h0
  rw [List.take_length]
  exact h0.append (List.take_sublist _ _)
theorem goR_all (rs : List YT) (due : Int) (l : List GT) : (goR rs due l l.length).Sublist (allM l) := by
 have := goR_sub rs due l l.length (Nat.le_refl _)
 rwa [ahead_all] at this
section
variable {fl : List FT} {pa : List PT} {l : List GT}
theorem go_fit (hM : Market fl pa) (hR : RingsR fl pa l) (rs : List YT) (due : Int) {x : MT} (hx : x ∈ goR rs due l l.length) : Fits fl pa x := by
 obtain ⟨n, hn, k, hk, rfl⟩ := (mem_goR l.length).1 hx
 exact (moveR_iff hM _).1 (hR.fit n hn k (Nat.lt_of_lt_of_le hk (told_ring rs due (rg l n)).le))
theorem go_closed (hR : RingsR fl pa l) (rs : List YT) (due : Int) {x : MT} (hx : x ∈ goR rs due l l.length) : Free pa x.f2 ∨ ∃ y, y ∈ goR rs due l l.length ∧ y.f1 = x.f2 := by
 obtain ⟨n, hn, k, hk, rfl⟩ := (mem_goR l.length).1 hx
 have hs := hR.shape n hn
 have ht := told_ring rs due (rg l n)
 have hle := ht.le
 cases hc : (rg l n).f0 with
 | true =>
  by_cases h0 : k = 0
  ·subst h0; exact .inl (hs.2.1 hc).1
  ·refine .inr ⟨mv (rg l n).f1 (k - 1), (mem_goR l.length).2 ⟨n, hn, k - 1, by omega, rfl⟩, ?_⟩
   exact ((hs.2.1 hc).2 k (by omega) (Nat.lt_of_lt_of_le hk hle)).symm
 | false =>
  have hall : nR rs due (rg l n) = (rg l n).f1.length := ht.full hc (Nat.lt_of_le_of_lt (Nat.zero_le _) hk)
  rw [hall] at hk
  refine .inr ⟨mv (rg l n).f1 ((k + 1) % (rg l n).f1.length), (mem_goR l.length).2 ⟨n, hn, (k + 1) % (rg l n).f1.length, ?_, rfl⟩, (hs.2.2 hc k hk).2.symm⟩
  rw [hall]
  exact Nat.mod_lt _ (by omega)
theorem go_homes (hR : RingsR fl pa l) (rs : List YT) (due : Int) : ((goR rs due l l.length).map (fun x => x.f0)).Nodup := List.Nodup.sublist ((goR_all rs due l).map _) hR.homes
theorem go_tos (hR : RingsR fl pa l) (rs : List YT) (due : Int) : ((goR rs due l l.length).map (fun x => x.f2)).Nodup := List.Nodup.sublist ((goR_all rs due l).map _) hR.tos
end
theorem runR_eq (fl : List FT) (pa : List PT) (l : List GT) (due : Int) (rs : List YT) : runR fl pa l due rs = if Market fl pa ∧ RepliesV rs ∧ 0 ≤ due ∧ due ≤ 36524 ∧ RingsR fl pa l then (goR rs due l l.length, brR rs due l l.length, 0) else ([], [], 1) := by
 unfold runR
 by_cases h : Market fl pa ∧ RepliesV rs ∧ 0 ≤ due ∧ due ≤ 36524 ∧ RingsR fl pa l
 ·rw [if_pos h, if_pos ⟨(marketOk_iff fl pa).2 h.1, (repliesB_iff rs).2 h.2.1, h.2.2.1, h.2.2.2.1, (ringsB_iff h.1 l).2 h.2.2.2.2⟩]
 ·rw [if_neg h, if_neg]
  rintro ⟨h1, h2, h3, h4, h5⟩
  have hm := (marketOk_iff fl pa).1 h1
  exact h ⟨hm, (repliesB_iff rs).1 h2, h3, h4, (ringsB_iff hm l).1 h5⟩
theorem few_M {fl : List FT} {pa : List PT} (h : FewM fl pa) : fewM fl pa = true := by
 unfold fewM
 rw [Bool.and_eq_true, decide_eq_true_iff, List.all_eq_true]
 refine ⟨⟨by have := h.f; omega, by have := h.p; omega⟩, fun p hp => ?_⟩
 obtain ⟨i, hi, e⟩ := List.mem_iff_getElem.1 hp
 have := h.w i hi
 rw [show pwt pa i = p.f2 by rw [pwt, pa_get pa i hi, e]] at this
 exact decide_eq_true (by omega)
theorem few_All {fl : List FT} {pa : List PT} {l : List GT} {rs : List YT} (h : FewM fl pa) (hl : l.length ≤ 20) (hm : ∀ i, i < l.length → (rg l i).f1.length ≤ 30) (hr : rs.length ≤ 1000) : fewAll fl pa l rs = true := by
 have hx : ∀ r ∈ l, r.f1.length ≤ 30 := fun r hr => by
  obtain ⟨i, hi, e⟩ := List.mem_iff_getElem.1 hr
  have := hm i hi
  rwa [rg_get l i hi, e] at this
 unfold fewAll fewR
 simp only [Bool.and_eq_true, decide_eq_true_iff, List.all_eq_true]
 exact ⟨⟨⟨few_M h, by omega, fun r hr => by have := hx r hr; omega⟩, fun r hr => by have := hx r hr; omega⟩, by omega, by omega⟩
theorem Run_f {fl : List FT} {pa : List PT} {l : List GT} {rs : List YT} (due : Int) (h : FewM fl pa) (hl : l.length ≤ 20) (hm : ∀ i, i < l.length → (rg l i).f1.length ≤ 30) (hr : rs.length ≤ 1000) : chain_Run.f fl pa l due rs = some (runR fl pa l due rs) := by
 unfold chain_Run.f
 rw [if_pos (few_All h hl hm hr)]
theorem runR_ok {fl : List FT} {pa : List PT} {l : List GT} {rs : List YT} {due : Int} (hM : Market fl pa) (hR : RingsR fl pa l) (hY : RepliesV rs) (h0 : 0 ≤ due) (h1 : due ≤ 36524) : runR fl pa l due rs = (goR rs due l l.length, brR rs due l l.length, 0) := by
 rw [runR_eq, if_pos ⟨hM, hY, h0, h1, hR⟩]
theorem mem_brR {rs : List YT} {due : Int} {l : List GT} (x : Int) : ∀ m, x ∈ brR rs due l m ↔ ∃ n, n < m ∧ bR rs due (rg l n) = true ∧ x = (n : Int)
 | 0 => by
  constructor
  ·intro h; cases h
  ·rintro ⟨n, hn, _⟩; exact absurd hn (Nat.not_lt_zero _)
 | m + 1 => by
  show x ∈ brM _ l (m + 1) ↔ _
  rw [brM_succ]
  by_cases hb : brk (repM rs due rs.length) (rd_T49 l (m : Int)) = true
  ·rw [if_pos hb, List.mem_append, mem_brR x m, List.mem_singleton]
   constructor
   ·rintro (⟨n, hn, h⟩ | e)
    ·exact ⟨n, by omega, h⟩
    ·exact ⟨m, by omega, hb, e⟩
   ·rintro ⟨n, hn, h, e⟩
    by_cases h' : n = m
    ·subst h'; exact .inr e
    ·exact .inl ⟨n, by omega, h, e⟩
  ·rw [if_neg hb, mem_brR x m]
   constructor
   ·rintro ⟨n, hn, h⟩; exact ⟨n, by omega, h⟩
   ·rintro ⟨n, hn, h, e⟩
    by_cases h' : n = m
    ·subst h'; exact absurd h hb
    ·exact ⟨n, by omega, h, e⟩
theorem move_beq (x y : MT) : (x.f0 == y.f0 && (x.f1 == y.f1 && (x.f2 == y.f2))) = decide (x = y) := by
 obtain ⟨a, b, c⟩ := x
 obtain ⟨a', b', c'⟩ := y
 rw [Bool.eq_iff_iff, Bool.and_eq_true, Bool.and_eq_true, decide_eq_true_iff, beq_iff_eq, beq_iff_eq, beq_iff_eq]
 constructor
 ·rintro ⟨rfl, rfl, rfl⟩; rfl
 ·intro h; injection h with h1 h2 h3; exact ⟨h1, h2, h3⟩
theorem SameMoves_f (a b : List MT) (hB : a.length ≤ 140737488355328) : Ev (fun k => cohousingref26_SameMoves.f k a b) (decide (a = b)) := by
 unfold cohousingref26_SameMoves.f
 by_cases hl : (a.length : Int) = (b.length : Int)
 ·simp only [hl, if_true]
  have hl' : a.length = b.length := by omega
  have key : ∀ i, i ≤ a.length → ((∀ j, j < i → mv a j = mv b j) → Ev (fun k => cohousingref26_SameMoves.l0 k a b (i : Int)) (decide (a = b))) := by
   refine loopUp a.length _ ?_ ?_
   ·intro hn
    have h1 : ¬ (((a.length : Nat) : Int) < (a.length : Int)) := by omega
    refine Ev.step ?_
    simp only [cohousingref26_SameMoves.l0, h1, if_false]
    rw [decide_eq_true (List.ext_getElem hl' (fun j h1 h2 => by rw [← mv_get a j h1, ← mv_get b j h2]; exact hn j h1))]
    exact Ev.pure _
   ·intro i hi ih hn
    have h1 : (i : Int) < (a.length : Int) := by omega
    have h2 : (0 : Int) ≤ (i : Int) := by omega
    have h3 : (i : Int) < (b.length : Int) := by omega
    have hx : (!((rd_T51 a (i : Int)).f0 == (rd_T51 b (i : Int)).f0) || (!((rd_T51 a (i : Int)).f1 == (rd_T51 b (i : Int)).f1) || !((rd_T51 a (i : Int)).f2 == (rd_T51 b (i : Int)).f2))) = !decide (mv a i = mv b i) := by
     rw [← move_beq, Bool.not_and, Bool.not_and]
    refine Ev.step ?_
    by_cases h : mv a i = mv b i
    ·simp only [cohousingref26_SameMoves.l0, h1, h2, h3, hx, if_true, decide_eq_true h, Bool.not_true, Bool.false_eq_true, if_false, wrap_nat (show i ≤ 140737488355328 by omega)]
     refine ih (fun j hj => ?_)
     by_cases e : j = i
     ·rw [e]; exact h
     ·exact hn j (by omega)
    ·simp only [cohousingref26_SameMoves.l0, h1, h2, h3, hx, if_true, decide_eq_false h, Bool.not_false]
     rw [decide_eq_false (fun e => h (by rw [e]))]
     exact Ev.pure _
  exact key 0 (by omega) (fun j hj => absurd hj (Nat.not_lt_zero _))
 ·simp only [hl, if_false]
  rw [decide_eq_false (fun e => hl (by rw [e]))]
  exact Ev.pure _
end Go.Proofs.Ytocbiggglnpeoaa.P
end
section
namespace Go.Proofs.Ytocbiggglnpeoaa.P
open Go.RowKit Go.Proofs.YtocbiggglnpeoaaW.PrintWords Go.Proofs.YtocbiggglnpeoaaW.PrintLast Go.Proofs.YtocbiggglnpeoaaW.PrintMore Go.Proofs.YtocbiggglnpeoaaH
open Classical
structure MovesV (fl : List FT) (pa : List PT) (ms : List MT) : Prop where
 fit : ∀ x ∈ ms, Fits fl pa x
 homes : (ms.map (fun x => x.f0)).Nodup
structure GoneV (pa : List PT) (gs : List Int) : Prop where
 party : ∀ k, k < gs.length → ∃ i, i < pa.length ∧ pid pa i = rd gs (k : Int)
 asc : ∀ j k, j < k → k < gs.length → rd gs (j : Int) < rd gs (k : Int)
theorem nodup_index (f : MT → Int) (ms : List MT) : (ms.map f).Nodup ↔ ∀ i j, i < j → j < ms.length → f (mv ms i) ≠ f (mv ms j) := by
 rw [List.Nodup, List.pairwise_iff_getElem]
 simp only [List.length_map, List.getElem_map]
 constructor
 ·intro h i j hij hj
  rw [mv_get ms i (by omega), mv_get ms j hj]
  exact h i j (by omega) hj hij
 ·intro h i j hi hj hij
  rw [← mv_get ms i hi, ← mv_get ms j hj]
  exact h i j hij hj
theorem toM_some {ms : List MT} {h t : Int} {n : Nat} (hn : toM ms n h = some t) : ∃ k, k < n ∧ (mv ms k).f0 = h ∧ (mv ms k).f2 = t := foldM_has _ _ _ _ _ hn
theorem toM_none {ms : List MT} {h : Int} {n : Nat} (hn : toM ms n h = none) : ∀ k, k < n → (mv ms k).f0 ≠ h := foldM_no _ _ _ _ hn
theorem movesB_iff {fl : List FT} {pa : List PT} (hM : Market fl pa) (ms : List MT) : movesB (homesM pa pa.length) (knownM fl fl.length) ms = true ↔ MovesV fl pa ms := by
 unfold movesB stepB
 rw [List.all_eq_true]
 simp only [List.mem_range, Bool.and_eq_true, fits_iff hM, Bool.not_eq_true']
 constructor
 ·intro h
  refine ⟨fun x hx => ?_, (nodup_index _ ms).2 (fun i j hij hj e => ?_)⟩
  ·obtain ⟨k, hk, e⟩ := List.mem_iff_getElem.1 hx
   rw [← e, ← mv_get ms k hk]
   exact (h k hk).2
  ·have h1 := (h j hj).1
   have h2 := (foldM_isSome (fun j : Nat => (rd_T51 ms (j : Int)).f0) (fun j : Nat => (rd_T51 ms (j : Int)).f2) (mv ms j).f0 j).2 ⟨i, hij, e⟩
   have h3 : (toM ms j (mv ms j).f0).isSome = true := h2
   rw [h1] at h3
   cases h3
 ·intro h n hn
  refine ⟨?_, h.fit _ (mv_mem hn)⟩
  cases hx : (toM ms n (rd_T51 ms (n : Int)).f0) with
  | none => rfl
  | some t =>
   obtain ⟨k, hk, e, _⟩ := toM_some hx
   exact absurd e ((nodup_index _ ms).1 h.homes k n hk hn)
theorem goneB_iff {fl : List FT} {pa : List PT} (hM : Market fl pa) (gs : List Int) : goneB (homesM pa pa.length) gs = true ↔ GoneV pa gs := by
 have hsome : ∀ x : Int, (homesM pa pa.length x).isSome = true ↔ ∃ i, i < pa.length ∧ pid pa i = x := fun x => foldM_isSome _ _ _ _
 unfold goneB goneAt
 rw [List.all_eq_true]
 simp only [List.mem_range, Bool.and_eq_true, hsome, Bool.or_eq_true, decide_eq_true_iff]
 have ha := asc_adj (fun n => rd gs (n : Int)) (rd gs 0 - 1) gs.length
 constructor
 ·intro h
  have h2 := ha.1 (fun n hn => by
   by_cases e : n = 0
   ·subst e; rw [if_pos rfl]; show rd gs 0 - 1 < rd gs ((0 : Nat) : Int); have : ((0 : Nat) : Int) = 0 := rfl; rw [this]; omega
   ·rw [if_neg e]
    rcases (h n hn).2 with h1 | h1
    ·exact absurd h1 e
    ·rwa [show ((n : Int) - 1) = ((n - 1 : Nat) : Int) by omega] at h1)
  exact ⟨fun k hk => (h k hk).1, h2.2⟩
 ·intro h n hn
  refine ⟨h.party n hn, ?_⟩
  by_cases e : n = 0
  ·exact .inl e
  ·right
   rw [show ((n : Int) - 1) = ((n - 1 : Nat) : Int) by omega]
   exact h.asc (n - 1) n (by omega) hn
def flA (ms : List MT) (pa : List PT) (i : Nat) : Int := (toM ms ms.length (pid pa i)).getD (pfl pa i)
def stay (gs : List Int) (pa : List PT) (n : Nat) : List Nat := (List.range n).filter (fun i => !gs.contains (pid pa i))
def newP (ms : List MT) (pa : List PT) (i : Nat) : PT := ⟨pid pa i, flA ms pa i, pwt pa i⟩
def kept (ms : List MT) (gs : List Int) (pa : List PT) (n : Nat) : List PT := (stay gs pa n).map (newP ms pa)
theorem stay_succ (gs : List Int) (pa : List PT) (n : Nat) : stay gs pa (n + 1) = stay gs pa n ++ (if pid pa n ∈ gs then [] else [n]) := by
 unfold stay
 rw [List.range_succ, List.filter_append]
 congr 1
 by_cases h : pid pa n ∈ gs <;> simp [h]
theorem mem_stay {gs : List Int} {pa : List PT} {n i : Nat} : i ∈ stay gs pa n ↔ i < n ∧ pid pa i ∉ gs := by
 unfold stay
 simp
theorem stay_asc (gs : List Int) (pa : List PT) (n : Nat) : (stay gs pa n).Pairwise (· < ·) := List.Pairwise.filter _ List.pairwise_lt_range
def Dist (ms : List MT) (gs : List Int) (pa : List PT) (n : Nat) : Prop := ∀ i j, i < j → j < n → pid pa i ∉ gs → pid pa j ∉ gs → flA ms pa j ≠ 0 → flA ms pa i ≠ flA ms pa j
theorem nxM_spec (ms : List MT) (gs : List Int) (pa : List PT) : ∀ n, n ≤ pa.length → (Dist ms gs pa n → ∃ V, nxM (toM ms ms.length) gs pa n = some (kept ms gs pa n, V) ∧ ∀ x, x ≠ 0 → ((V x).getD false = true ↔ ∃ i, i < n ∧ pid pa i ∉ gs ∧ flA ms pa i = x)) ∧ (¬ Dist ms gs pa n → nxM (toM ms ms.length) gs pa n = none) := by
 intro n
 induction n with
 | zero =>
  intro _
  refine ⟨fun _ => ⟨fun _ => none, rfl, fun x _ => ?_⟩, fun h => absurd (fun i j _ hj => absurd hj (Nat.not_lt_zero _)) h⟩
  constructor
  ·intro h; cases h
  ·rintro ⟨i, hi, _⟩; exact absurd hi (Nat.not_lt_zero _)
 | succ n ih =>
  intro hn
  obtain ⟨h1, h2⟩ := ih (by omega)
  have down : Dist ms gs pa (n + 1) → Dist ms gs pa n := fun h i j hij hj => h i j hij (by omega)
  have hb : nxM (toM ms ms.length) gs pa (n + 1) = (nxM (toM ms ms.length) gs pa n).bind (nxS (toM ms ms.length) gs (rd_T46 pa (n : Int))) := nxM_succ _ _ _ _
  by_cases hd : Dist ms gs pa n
  ·obtain ⟨V, hV, hx⟩ := h1 hd
   rw [hb, hV, Option.bind_some]
   unfold nxS
   by_cases hg : pid pa n ∈ gs
   ·rw [if_pos (by simpa using hg)]
    refine ⟨fun _ => ⟨V, ?_, fun x h0 => ?_⟩, fun hno => absurd (fun i j hij hj hi' hj' => ?_) hno⟩
    ·unfold kept; rw [stay_succ, if_pos hg, List.append_nil]
    ·rw [hx x h0]
     constructor
     ·rintro ⟨i, hi, h⟩; exact ⟨i, by omega, h⟩
     ·rintro ⟨i, hi, hi', e⟩
      by_cases h : i = n
      ·subst h; exact absurd hg hi'
      ·exact ⟨i, by omega, hi', e⟩
    ·by_cases h : j = n
     ·subst h; exact absurd hg hj'
     ·exact hd i j hij (by omega) hi' hj'
   ·rw [if_neg (by simpa using hg)]
    have hfl : (toM ms ms.length (rd_T46 pa (n : Int)).f0).getD (rd_T46 pa (n : Int)).f1 = flA ms pa n := rfl
    simp only [hfl]
    by_cases hc : flA ms pa n ≠ 0 ∧ (V (flA ms pa n)).getD false = true
    ·rw [if_pos hc]
     obtain ⟨i, hi, hi', e⟩ := (hx _ hc.1).1 hc.2
     exact ⟨fun hd' => absurd e (hd' i n hi (by omega) hi' hg hc.1), fun _ => rfl⟩
    ·rw [if_neg hc]
     refine ⟨fun _ => ⟨upd V (flA ms pa n) true, ?_, fun x h0 => ?_⟩, fun hno => absurd (fun i j hij hj hi' hj' h0 => ?_) hno⟩
     ·unfold kept; rw [stay_succ, if_neg hg, List.map_append]; rfl
     ·unfold upd
      by_cases e : x = flA ms pa n
      ·rw [if_pos e]
       exact ⟨fun _ => ⟨n, by omega, hg, e.symm⟩, fun _ => rfl⟩
      ·rw [if_neg e, hx x h0]
       constructor
       ·rintro ⟨i, hi, h⟩; exact ⟨i, by omega, h⟩
       ·rintro ⟨i, hi, hi', e'⟩
        by_cases h : i = n
        ·subst h; exact absurd e'.symm e
        ·exact ⟨i, by omega, hi', e'⟩
     ·by_cases h : j = n
      ·subst h
       intro e
       exact hc ⟨h0, (hx _ h0).2 ⟨i, hij, hi', e⟩⟩
      ·exact hd i j hij (by omega) hi' hj' h0
  ·rw [hb, h2 hd]
   exact ⟨fun h => absurd (down h) hd, fun _ => rfl⟩
theorem nextR_eq (fl : List FT) (pa : List PT) (ms : List MT) (gs : List Int) : nextR fl pa ms gs = if Market fl pa ∧ MovesV fl pa ms ∧ GoneV pa gs then (if Dist ms gs pa pa.length then (fl, kept ms gs pa pa.length, 0) else ([], [], 22)) else ([], [], 1) := by
 unfold nextR
 by_cases h : Market fl pa ∧ MovesV fl pa ms ∧ GoneV pa gs
 ·rw [if_pos h, if_pos ⟨(marketOk_iff fl pa).2 h.1, (movesB_iff h.1 ms).2 h.2.1, (goneB_iff h.1 gs).2 h.2.2⟩]
  obtain ⟨h1, h2⟩ := nxM_spec ms gs pa pa.length (Nat.le_refl _)
  by_cases hd : Dist ms gs pa pa.length
  ·obtain ⟨V, hV, _⟩ := h1 hd
   rw [if_pos hd, hV]
   rfl
  ·rw [if_neg hd, h2 hd]
   rfl
 ·rw [if_neg h, if_neg]
  rintro ⟨h1, h2, h3⟩
  have hm := (marketOk_iff fl pa).1 h1
  exact h ⟨hm, (movesB_iff hm ms).1 h2, (goneB_iff hm gs).1 h3⟩
theorem Next_f {fl : List FT} {pa : List PT} {ms : List MT} {gs : List Int} (h : FewM fl pa) (hm : ms.length ≤ 1000000) (hg : gs.length ≤ 1000000) : chain_Next.f fl pa ms gs = some (nextR fl pa ms gs) := by
 unfold chain_Next.f fewN
 rw [if_pos (by rw [few_M h, Bool.true_and]; exact decide_eq_true ⟨by omega, by omega⟩)]
theorem kept_len (ms : List MT) (gs : List Int) (pa : List PT) (n : Nat) : (kept ms gs pa n).length = (stay gs pa n).length := by unfold kept; rw [List.length_map]
theorem stay_len (gs : List Int) (pa : List PT) (n : Nat) : (stay gs pa n).length ≤ n := by
 unfold stay
 exact Nat.le_trans (List.length_filter_le _ _) (by simp)
theorem kept_at (ms : List MT) (gs : List Int) (pa : List PT) (n : Nat) {a : Nat} (ha : a < (stay gs pa n).length) : rd_T46 (kept ms gs pa n) (a : Int) = newP ms pa ((stay gs pa n)[a]) := by
 rw [pa_get _ a (by rw [kept_len]; exact ha)]
 unfold kept
 rw [List.getElem_map]
theorem stay_at {gs : List Int} {pa : List PT} {n : Nat} {a : Nat} (ha : a < (stay gs pa n).length) : (stay gs pa n)[a] < n ∧ pid pa ((stay gs pa n)[a]) ∉ gs := mem_stay.1 (List.getElem_mem ha)
theorem stay_lt {gs : List Int} {pa : List PT} {n : Nat} {a b : Nat} (hab : a < b) (hb : b < (stay gs pa n).length) : (stay gs pa n)[a] < (stay gs pa n)[b] := List.pairwise_iff_getElem.1 (stay_asc gs pa n) a b (by omega) hb hab
section
variable {fl : List FT} {pa : List PT} {ms : List MT} {gs : List Int} (hM : Market fl pa) (hV : MovesV fl pa ms)
include hM hV
theorem flA_has {i : Nat} (hi : i < pa.length) (h0 : flA ms pa i ≠ 0) : HasF fl (flA ms pa i) := by
 unfold flA at h0 ⊢
 cases hx : toM ms ms.length (pid pa i) with
 | none => rw [hx] at h0; exact hM.own i hi h0
 | some t =>
  obtain ⟨k, hk, _, e⟩ := toM_some hx
  obtain ⟨_, _, _, _, hf⟩ := hV.fit _ (mv_mem hk)
  rw [e] at hf
  exact hf
theorem market_kept (hd : Dist ms gs pa pa.length) : Market fl (kept ms gs pa pa.length) := by
 have hl := kept_len ms gs pa pa.length
 refine ⟨hM.flv, fun a b hab hb => ?_, fun a ha => ?_, fun a ha h0 => ?_, fun a b hab hb h0 => ?_, fun a ha k hk => ?_, fun a ha j k hjk hk => ?_⟩
 ·rw [hl] at hb
  show (rd_T46 _ (a : Int)).f0 < (rd_T46 _ (b : Int)).f0
  rw [kept_at ms gs pa _ (show a < _ by omega), kept_at ms gs pa _ hb]
  exact hM.asc _ _ (stay_lt hab hb) (stay_at hb).1
 ·rw [hl] at ha
  show 1 ≤ (rd_T46 _ (a : Int)).f0 ∧ (rd_T46 _ (a : Int)).f0 ≤ 64
  rw [kept_at ms gs pa _ ha]
  exact hM.rng _ (stay_at ha).1
 ·rw [hl] at ha
  have e : pfl (kept ms gs pa pa.length) a = flA ms pa ((stay gs pa pa.length)[a]) := by show (rd_T46 _ (a : Int)).f1 = _; rw [kept_at ms gs pa _ ha]; rfl
  rw [e] at h0 ⊢
  exact flA_has hM hV (stay_at ha).1 h0
 ·rw [hl] at hb
  have ha : a < (stay gs pa pa.length).length := by omega
  have e1 : pfl (kept ms gs pa pa.length) a = flA ms pa ((stay gs pa pa.length)[a]) := by show (rd_T46 _ (a : Int)).f1 = _; rw [kept_at ms gs pa _ ha]; rfl
  have e2 : pfl (kept ms gs pa pa.length) b = flA ms pa ((stay gs pa pa.length)[b]) := by show (rd_T46 _ (b : Int)).f1 = _; rw [kept_at ms gs pa _ hb]; rfl
  rw [e2] at h0
  rw [e1, e2]
  exact hd _ _ (stay_lt hab hb) (stay_at hb).1 (stay_at ha).2 (stay_at hb).2 h0
 ·rw [hl] at ha
  have e : pwt (kept ms gs pa pa.length) a = pwt pa ((stay gs pa pa.length)[a]) := by show (rd_T46 _ (a : Int)).f2 = _; rw [kept_at ms gs pa _ ha]; rfl
  rw [e] at hk ⊢
  exact hM.wnt _ (stay_at ha).1 k hk
 ·rw [hl] at ha
  have e : pwt (kept ms gs pa pa.length) a = pwt pa ((stay gs pa pa.length)[a]) := by show (rd_T46 _ (a : Int)).f2 = _; rw [kept_at ms gs pa _ ha]; rfl
  rw [e] at hk ⊢
  exact hM.wdis _ (stay_at ha).1 j k hjk hk
end
theorem few_kept {fl : List FT} {pa : List PT} {ms : List MT} {gs : List Int} (h : FewM fl pa) : FewM fl (kept ms gs pa pa.length) := by
 have hl := kept_len ms gs pa pa.length
 have hs := stay_len gs pa pa.length
 refine ⟨h.f, by have := h.p; omega, fun a ha => ?_⟩
 rw [hl] at ha
 show (rd_T46 _ (a : Int)).f2.length ≤ 30
 rw [kept_at ms gs pa _ ha]
 exact h.w _ (stay_at ha).1
theorem Valid26_f {fl : List FT} {pa : List PT} (h : FewM fl pa) : market_Valid.f fl pa = some (decide (Market fl pa)) := by
 unfold market_Valid.f
 rw [if_pos (few_M h), marketOk_eq]
theorem stay_nil (pa : List PT) (n : Nat) : stay [] pa n = List.range n := by
 unfold stay
 rw [List.filter_eq_self]
 intro i _
 rfl
theorem goneV_nil (pa : List PT) : GoneV pa [] := ⟨fun k hk => absurd hk (Nat.not_lt_zero _), fun j k _ hk => absurd hk (Nat.not_lt_zero _)⟩
section
variable {fl : List FT} {pa : List PT} {l : List GT} (hM : Market fl pa) (hR : RingsR fl pa l)
include hM hR
theorem go_moves (rs : List YT) (due : Int) : MovesV fl pa (goR rs due l l.length) := ⟨fun _ hx => go_fit hM hR rs due hx, go_homes hR rs due⟩
theorem go_dist (rs : List YT) (due : Int) (gs : List Int) : Dist (goR rs due l l.length) gs pa pa.length := by
 intro i j hij hj _ _ h0 e
 have hi : i < pa.length := by omega
 have hh := go_homes hR rs due
 have ht := go_tos hR rs due
 have key : ∀ p q, p < pa.length → q < pa.length → p ≠ q → ∀ k, k < (goR rs due l l.length).length → (mv (goR rs due l l.length) k).f0 = pid pa p → toM (goR rs due l l.length) (goR rs due l l.length).length (pid pa q) = none → (mv (goR rs due l l.length) k).f2 = pfl pa q → False := by
  intro p q hp hq _ k hk _ hno e2
  rcases go_closed hR rs due (mv_mem hk) with hf | ⟨y, hy, ey⟩
  ·exact hf q hq e2.symm
  ·obtain ⟨q', hq', e3, e4, _⟩ := go_fit hM hR rs due hy
   have hpos : 1 ≤ (mv (goR rs due l l.length) k).f2 := by
    obtain ⟨_, _, _, _, hf⟩ := go_fit hM hR rs due (mv_mem hk)
    exact hf.pos hM.flv
   have e5 : pfl pa q' = pfl pa q := by rw [e4, ey, e2]
   have : q' = q := hM.flat_inj hq' hq (by rw [e5, ← e2]; omega) e5
   subst this
   obtain ⟨k', hk', e6⟩ := List.mem_iff_getElem.1 hy
   have := toM_none hno k' hk'
   rw [mv_get _ k' hk', e6] at this
   exact this e3.symm
 unfold flA at h0 e
 cases hxi : toM (goR rs due l l.length) (goR rs due l l.length).length (pid pa i) with
 | none =>
  rw [hxi] at e
  cases hxj : toM (goR rs due l l.length) (goR rs due l l.length).length (pid pa j) with
  | none =>
   rw [hxj] at e h0
   exact hM.dis i j hij hj h0 e
  | some t =>
   rw [hxj] at e
   obtain ⟨k, hk, e1, e2⟩ := toM_some hxj
   exact key j i hj hi (by omega) k hk e1 hxi (e2.trans e.symm)
 | some s =>
  rw [hxi] at e
  obtain ⟨k, hk, e1, e2⟩ := toM_some hxi
  cases hxj : toM (goR rs due l l.length) (goR rs due l l.length).length (pid pa j) with
  | none =>
   rw [hxj] at e
   exact key i j hi hj (by omega) k hk e1 hxj (e2.trans e)
  | some t =>
   rw [hxj] at e
   obtain ⟨k', hk', e1', e2'⟩ := toM_some hxj
   have e' : s = t := e
   have hkk : k = k' := by
    rcases Nat.lt_trichotomy k k' with h | h | h
    ·exact absurd (by rw [e2, e2', e']) ((nodup_index _ _).1 ht k k' h hk')
    ·exact h
    ·exact absurd (by rw [e2, e2', e']) ((nodup_index _ _).1 ht k' k h hk)
   subst hkk
   have := hM.asc i j hij hj
   rw [e1] at e1'
   omega
end
end Go.Proofs.Ytocbiggglnpeoaa.P
end
section
namespace Go.Proofs.Ytocbiggglnpeoaa.P
open Go.RowKit Go.Proofs.YtocbiggglnpeoaaW.PrintWords Go.Proofs.YtocbiggglnpeoaaW.PrintLast Go.Proofs.YtocbiggglnpeoaaW.PrintMore Go.Proofs.YtocbiggglnpeoaaH
open Classical
theorem head26 : Ev (fun k => cohousinglaw26_head.f k) true := Ev.of_mono 60 (by kernel_rfl) (fun k => cohousinglaw26_head.mono k)
theorem on_f {a : Int} (h0 : 0 ≤ a) (h1 : a ≤ 65535) : cohousinglaw26_on.f a = some (a % 36525) := by
 unfold cohousinglaw26_on.f
 rw [show wrap64 a = a by unfold wrap64; omega, Int.tmod_eq_emod_of_nonneg h0]
theorem go_few {rs : List YT} {due : Int} {l : List GT} (hl : l.length ≤ 20) (hm : ∀ i, i < l.length → (rg l i).f1.length ≤ 30) : (goR rs due l l.length).length ≤ 20000 := by
 have h1 := (goR_sub rs due l l.length (Nat.le_refl _)).length_le
 have h2 := ahead_len l (fun i hi => by have := hm i hi; omega) l.length (Nat.le_refl _)
 omega
theorem next_go {fl : List FT} {pa : List PT} {l : List GT} (hM : Market fl pa) (hR : RingsR fl pa l) (rs : List YT) (due : Int) : nextR fl pa (goR rs due l l.length) [] = (fl, kept (goR rs due l l.length) [] pa pa.length, 0) := by
 rw [nextR_eq, if_pos ⟨hM, go_moves hM hR rs due, goneV_nil pa⟩, if_pos (go_dist hM hR rs due [])]
theorem kept_nil_at (ms : List MT) (pa : List PT) {i : Nat} (hi : i < pa.length) : rd_T46 (kept ms [] pa pa.length) (i : Int) = newP ms pa i := by
 have hl : i < (stay [] pa pa.length).length := by rw [stay_nil, List.length_range]; exact hi
 rw [kept_at ms [] pa _ hl]
 congr 1
 simp [stay_nil]
theorem kept_nil_len (ms : List MT) (pa : List PT) : (kept ms [] pa pa.length).length = pa.length := by rw [kept_len, stay_nil, List.length_range]
theorem flA_ne {fl : List FT} {pa : List PT} {ms : List MT} (hM : Market fl pa) (hV : MovesV fl pa ms) {i : Nat} (h0 : pfl pa i ≠ 0) : flA ms pa i ≠ 0 := by
 unfold flA
 cases hx : toM ms ms.length (pid pa i) with
 | none => exact h0
 | some t =>
  obtain ⟨k, hk, _, e⟩ := toM_some hx
  obtain ⟨_, _, _, _, hf⟩ := hV.fit _ (mv_mem hk)
  have := hf.pos hM.flv
  show t ≠ 0
  omega
end Go.Proofs.Ytocbiggglnpeoaa.P
end
