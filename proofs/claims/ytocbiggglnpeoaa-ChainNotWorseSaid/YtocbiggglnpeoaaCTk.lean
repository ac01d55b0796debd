/- Part 11 of the base that the seat's proofs share: words, walks and plain laws. -/
import Derived.ArgAppend
import Derived.Below
import Derived.BigQuiet
import Derived.ChangeOld
import Derived.ChangeSlices
import Derived.Deep.AppendLies
import Derived.Deep.CutBlock
import Derived.Deep.DeepCutAuto
import Derived.Deep.Draws
import Derived.Deep.LoopGhost
import Derived.Deep.OwnRows
import Derived.Deep.QuietTactic
import Derived.Deep.RegionHeld3
import Derived.Deep.Slices
import Derived.KernelRfl
import Derived.Laws.BitsLemmas
import Derived.Laws.BytesArg
import Derived.Laws.IdiomCopy
import Derived.Laws.MakeOwn
import Derived.Laws.OwnMore
import Derived.Laws.Rows
import Derived.Laws.Slices
import Derived.Laws.StructEq
import Derived.Lib.AppendStr
import Derived.Lib.BufferOwn
import Derived.Lib.ConvBytes
import Derived.Lib.SliceRun
import Derived.LoopIn
import Derived.LoopNIn
import Derived.Maps.AppendAt
import Derived.Maps.Own
import Derived.OpenShut
import Derived.OrdersHeld
import Derived.OwnWalk
import Derived.OwnWalkIn
import Derived.ProofKit
import Derived.RangeFuncBound
import Derived.RangeFuncCalls
import Derived.RangeFuncLeaves
import Derived.RangeFuncNested
import Derived.RowKit
import Derived.RowKit3
import Derived.ShutString
import Derived.SizedLaws
import Derived.Tactics
import Derived.TacticsInMore
import Derived.Test.YtocbiggglnpeoaaProg
import Derived.WalkKit
import Derived.WideLaws
import Derived.Test.YtocbiggglnpeoaaCTj
set_option linter.unusedVariables false
set_option linter.unusedSimpArgs false
section
namespace Go.Proofs.Ytocbiggglnpeoaa.P
open Go.RowKit Go.Proofs.YtocbiggglnpeoaaW.PrintWords Go.Proofs.YtocbiggglnpeoaaW.PrintLast Go.Proofs.YtocbiggglnpeoaaW.PrintMore
attribute [local go_sem] max2_int min2_int max_two min_two max_three min_three max_four min_four
set_option linter.unusedVariables false
set_option linter.unusedSimpArgs false
set_option maxHeartbeats 8000000
set_option maxRecDepth 100000
section
mutual
def cohousingref26_Rings.l0 : Nat → List (S49) → List Int → List Int → Int → List (S84) → List (S46) → Option (Bool)
 | 0, _, _, _, _, _, _ => none
 | k + 1, x1, x5, x6, x7, x243000, x243001 => if x7 < (x1.length : Int) then (cohousingref26_Rings.l1 k x1 x5 x6 x7 0 x243000 x243001) else (some true)
def cohousingref26_Rings.l1 : Nat → List (S49) → List Int → List Int → Int → Int → List (S84) → List (S46) → Option (Bool)
 | 0, _, _, _, _, _, _, _ => none
 | k + 1, x1, x5, x6, x7, x8, x243000, x243001 => if 0 ≤ x7 then (if x7 < (x1.length : Int) then (if x8 < (((rd_T49 x1 x7).f1).length : Int) then (if 0 ≤ x8 then ((cohousingref26_move.f k x243000 x243001 ((rd_T51 ((rd_T49 x1 x7).f1) x8).f0) ((rd_T51 ((rd_T49 x1 x7).f1) x8).f1) ((rd_T51 ((rd_T49 x1 x7).f1) x8).f2)).bind fun t249 => (if t249 = true then ((cohousingref23_In.f k x5 ((rd_T51 ((rd_T49 x1 x7).f1) x8).f0)).bind fun t250 => (if t250 ≥ 0 then (some false) else ((cohousingref23_In.f k x6 ((rd_T51 ((rd_T49 x1 x7).f1) x8).f2)).bind fun t251 => (if t251 ≥ 0 then (some false) else (if x5.length < 17592186044416 then (if x6.length < 17592186044416 then (cohousingref26_Rings.l1 k x1 (x5 ++ [(rd_T51 ((rd_T49 x1 x7).f1) x8).f0]) (x6 ++ [(rd_T51 ((rd_T49 x1 x7).f1) x8).f2]) x7 (wrap64 (x8 + 1)) x243000 x243001) else (none)) else (none)))))) else (some false))) else (none)) else ((cohousingref26_shape.f k x243000 x243001 ((rd_T49 x1 x7).f0) ((rd_T49 x1 x7).f1)).bind fun t245 => (if t245 = true then (cohousingref26_Rings.l0 k x1 x5 x6 (wrap64 (x7 + 1)) x243000 x243001) else (some false)))) else (none)) else (none)
end
def cohousingref26_Rings.f (k : Nat) (l0_0 : List (S84)) (l0_1 : List (S46)) (l1 : List (S49)) : Option (Bool) := if (l1.length : Int) > 64 then (some false) else (cohousingref26_Rings.l0 k l1 ([] : List Int) ([] : List Int) 0 l0_0 l0_1)
theorem cohousingref26_Rings.calls (k : Nat) (A0_0 : Option Addr) (c0_0 : Nat) (l0_0 : List (S84)) (A0_1 : Option Addr) (c0_1 : Nat) (l0_1 : List (S46)) (A1 : Option Addr) (c1 : Nat) (l1 : List (S49)) (r : Bool) (w : World) (hr0_0 : Kd.C k84 w A0_0 l0_0.length l0_0) (hc0_0 : l0_0.length ≤ c0_0) (hr0_1 : Kd.C k46 w A0_1 l0_1.length l0_1) (hc0_1 : l0_1.length ≤ c0_1) (hr1 : Kd.C k49 w A1 l1.length l1) (hc1 : l1.length ≤ c1) (h : cohousingref26_Rings.f k l0_0 l0_1 l1 = some r) :
  Calls Try.prog 35 #[.agg #[.slice A0_0 l0_0.length c0_0, .slice A0_1 l0_1.length c0_1], .slice A1 l1.length c1] w fun e w' => e = .returned (.bool r) ∧ Below w.heap.size w w' := by
 have hu25 := Try.underlying25
 have hu51 := Try.underlying51
 have hu49 := Try.underlying49
 have HR0_0 := Aside0.mk hr0_0
 have HC0_0 := Aside0.mk hc0_0
 clear hr0_0 hc0_0
 have HR0_1 := Aside0.mk hr0_1
 have HC0_1 := Aside0.mk hc0_1
 clear hr0_1 hc0_1
 have HR1 := Aside0.mk hr1
 have HC1 := Aside0.mk hc1
 clear hr1 hc1
 have HB := Aside0.mk (Below.refl w.heap.size w)
 have H : (if (l1.length : Int) > 64 then (some false) else (cohousingref26_Rings.l0 k l1 ([] : List Int) ([] : List Int) 0 l0_0 l0_1)) = some r := h
 clear h
 by_cases c3 : (l1.length : Int) > 64
 ·rw [if_pos c3] at H
  have c3b0 : decide (64 < (l1.length : Int)) = true := decide_eq_true c3
  have c3b1 : decide (64 < l1.length) = true := decide_eq_true (by omega)
  clear c3
  obtain rfl := Option.some.inj H
  go_enter Try.func35, Try.ntmps35
  go_wp2_with (first | ((with_reducible refine gate_dst (N := 2) rfl ?_); refine box_event ?hg (N := 2) ?hd (cs := #[.slice A0_0 l0_0.length c0_0, .slice A0_1 l0_1.length c0_1]) (t := 25) ?hr ?_; (case hd => rfl); (case hg => rfl); (case hr => first | (go_simp; done) | (go_simp; rfl)); intro gb242 hg w4 hbox hb; have n0_ := Aside0.mk (below_step (bb_ HB) hb); have n1_ := Aside0.mk (hbox); have n2_ := Aside0.mk ((by rw [hg]; exact (below_size (bb_ HB)) : w.heap.size ≤ gb242)); have n3_ := Aside0.mk ((by rw [hg]; exact (below_size (bb_ HB)) : w.heap.size ≤ gb242)); clear HB; have HB := n0_; have BK242 := n1_; have GW242 := n2_; have GE242 := n3_; clear n0_ n1_ n2_ n3_; clear hb hbox hg))
  go_ret
  exact ⟨ew_, by repeat (first | (with_reducible first | exact HB.out | apply below_alloc | apply pw_below_drewN | apply below_drew1 | refine below_set ?_ GE242.out) | exact HB.out)⟩
 ·rw [if_neg c3] at H
  have c3b0 : decide (64 < (l1.length : Int)) = false := decide_eq_false c3
  have c3b1 : decide (64 < l1.length) = false := decide_eq_false (by omega)
  clear c3
  have H' := Aside0.mk H
  clear H
  go_enter Try.func35, Try.ntmps35
  go_wp2_with (first | ((with_reducible refine gate_dst (N := 2) rfl ?_); refine box_event ?hg (N := 2) ?hd (cs := #[.slice A0_0 l0_0.length c0_0, .slice A0_1 l0_1.length c0_1]) (t := 25) ?hr ?_; (case hd => rfl); (case hg => rfl); (case hr => first | (go_simp; done) | (go_simp; rfl)); intro gb242 hg w5 hbox hb; have n0_ := Aside0.mk (below_step (bb_ HB) hb); have n1_ := Aside0.mk (hbox); have n2_ := Aside0.mk ((by rw [hg]; exact (below_size (bb_ HB)) : w.heap.size ≤ gb242)); have n3_ := Aside0.mk ((by rw [hg]; exact (below_size (bb_ HB)) : w.heap.size ≤ gb242)); clear HB; have HB := n0_; have BK242 := n1_; have GW242 := n2_; have GE242 := n3_; clear n0_ n1_ n2_ n3_; clear hb hbox hg))
  go_loopg [5, 6, 7] k (fun kq v5 v6 v7 w' => ∃ (x5_1 : List Int) (x6_1 : List Int) (x7_1 : Int), v7 = .int .i64 x7_1 ∧ Aside0 (cohousingref26_Rings.l0 kq l1 x5_1 x6_1 x7_1 l0_0 l0_1 = some r) ∧ Aside0 (kq ≤ k) ∧ Aside0 (Kd.R (Kd.int .i64) 3 w' w.heap.size (fun k_ => some k_ ≠ (v6 : Value).ownBlock) v5 x5_1) ∧ Aside0 (Kd.R (Kd.int .i64) 3 w' w.heap.size (fun k_ => some k_ ≠ (v5 : Value).ownBlock) v6 x6_1) ∧ Aside0 (w'.heap[gb242]? = some (.cells #[(.slice A0_0 l0_0.length c0_0), (.slice A0_1 l0_1.length c0_1)] 25 (0, 0))) ∧ Aside0 (Below w.heap.size w w'))
  case atStart => exact ⟨(([] : List Int)), (([] : List Int)), (0), sd_, H', ⟨Nat.le_refl _⟩, ⟨by first | exact Kd.R_nil _ _ _ _ _ | exact Kd.N_nil _ _ _ _ _ | exact Kd.V_nil _ _ _ _ _ | exact Kd.Q_nil _ _ _ _ _ | exact Kd.S_nil _ _ _ _ _⟩, ⟨by first | exact Kd.R_nil _ _ _ _ _ | exact Kd.N_nil _ _ _ _ _ | exact Kd.V_nil _ _ _ _ _ | exact Kd.Q_nil _ _ _ _ _ | exact Kd.S_nil _ _ _ _ _⟩, ⟨by (with_reducible repeat (first | refine blk_drewN ?_ _ | refine blk_drew ?_ | refine blk_alloc ?_ _)); exact BK242.out⟩, ⟨by repeat (first | (with_reducible first | exact HB.out | apply below_alloc | apply pw_below_drewN | apply below_drew1 | refine below_set ?_ GE242.out) | exact HB.out)⟩⟩
  case round =>
   clear H'
   try clear c1
   try clear p2
   try clear c3
   try clear c3b0
   try clear c3b1
   obtain ⟨x5_1, x6_1, x7_1, rfl, HA, HK1, HO_5, HO_6, BK242, HB⟩ := hrel
   cases gk with
   | zero => exact absurd HA.out (by simp [cohousingref26_Rings.l0])
   | succ k1 =>
    have H := HA.out
    clear HA
    simp only [cohousingref26_Rings.l0] at H
    by_cases c6 : x7_1 < (l1.length : Int)
    ·rw [if_pos c6] at H
     have c6b0 : decide (x7_1 < (l1.length : Int)) = true := decide_eq_true c6
     clear c6
     have H' := Aside0.mk H
     clear H
     go_wp2
     go_loopg [5, 6, 8] k1 (fun kq v5 v6 v8 w' => ∃ (x5_2 : List Int) (x6_2 : List Int) (x8_2 : Int), v8 = .int .i64 x8_2 ∧ Aside0 (cohousingref26_Rings.l1 kq l1 x5_2 x6_2 x7_1 x8_2 l0_0 l0_1 = some r) ∧ Aside0 (kq ≤ k1) ∧ Aside0 (Kd.R (Kd.int .i64) 3 w' w.heap.size (fun k_ => some k_ ≠ (v6 : Value).ownBlock) v5 x5_2) ∧ Aside0 (Kd.R (Kd.int .i64) 3 w' w.heap.size (fun k_ => some k_ ≠ (v5 : Value).ownBlock) v6 x6_2) ∧ Aside0 (w'.heap[gb242]? = some (.cells #[(.slice A0_0 l0_0.length c0_0), (.slice A0_1 l0_1.length c0_1)] 25 (0, 0))) ∧ Aside0 (Below w.heap.size w w'))
     case atStart => exact ⟨(x5_1), (x6_1), (0), sd_, H', ⟨Nat.le_refl _⟩, ⟨by (with_reducible repeat (first | apply Kd.R_alloc | apply Kd.R_drewN | apply Kd.R_drew)); exact HO_5.out⟩, ⟨by (with_reducible repeat (first | apply Kd.R_alloc | apply Kd.R_drewN | apply Kd.R_drew)); exact HO_6.out⟩, ⟨by (with_reducible repeat (first | refine blk_drewN ?_ _ | refine blk_drew ?_ | refine blk_alloc ?_ _)); exact BK242.out⟩, ⟨by repeat (first | (with_reducible first | exact HB.out | apply below_alloc | apply pw_below_drewN | apply below_drew1 | refine below_set ?_ GE242.out) | exact HB.out)⟩⟩
     case round =>
      clear H'
      try clear c1
      try clear p2
      try clear c3
      try clear c3b0
      try clear c3b1
      try clear c6
      try clear c6b0
      try clear p2
      obtain ⟨x5_2, x6_2, x8_2, rfl, HA, HK2, HO_5, HO_6, BK242, HB⟩ := hrel
      cases gk with
      | zero => exact absurd HA.out (by simp [cohousingref26_Rings.l1])
      | succ k2 =>
       have H := HA.out
       clear HA
       simp only [cohousingref26_Rings.l1] at H
       by_cases c7 : 0 ≤ x7_1
       ·rw [if_pos c7] at H
        have c7b0 : decide (0 ≤ x7_1) = true := decide_eq_true c7
        clear c7
        by_cases c8 : x7_1 < (l1.length : Int)
        ·rw [if_pos c8] at H
         have c8b0 : decide (x7_1 < (l1.length : Int)) = true := decide_eq_true c8
         clear c8
         by_cases c9 : x8_2 < (((rd_T49 l1 x7_1).f1).length : Int)
         ·rw [if_pos c9] at H
          have c9b0 : decide (x8_2 < (((rd_T49 l1 x7_1).f1).length : Int)) = true := decide_eq_true c9
          clear c9
          by_cases c10 : 0 ≤ x8_2
          ·rw [if_pos c10] at H
           have c10b0 : decide (0 ≤ x8_2) = true := decide_eq_true c10
           clear c10
           replace H := Option.bind_eq_some_iff.mp H
           obtain ⟨t249, A110, H⟩ := H
           replace H : (if t249 = true then ((cohousingref23_In.f k2 x5_2 ((rd_T51 ((rd_T49 l1 x7_1).f1) x8_2).f0)).bind fun t250 => (if t250 ≥ 0 then (some false) else ((cohousingref23_In.f k2 x6_2 ((rd_T51 ((rd_T49 l1 x7_1).f1) x8_2).f2)).bind fun t251 => (if t251 ≥ 0 then (some false) else (if x5_2.length < 17592186044416 then (if x6_2.length < 17592186044416 then (cohousingref26_Rings.l1 k2 l1 (x5_2 ++ [(rd_T51 ((rd_T49 l1 x7_1).f1) x8_2).f0]) (x6_2 ++ [(rd_T51 ((rd_T49 l1 x7_1).f1) x8_2).f2]) x7_1 (wrap64 (x8_2 + 1)) l0_0 l0_1) else (none)) else (none)))))) else (some false)) = some r := H
           have A11 := Aside0.mk A110
           clear A110
           by_cases c12 : t249 = true
           ·subst c12
            have H1 : ((cohousingref23_In.f k2 x5_2 ((rd_T51 ((rd_T49 l1 x7_1).f1) x8_2).f0)).bind fun t250 => (if t250 ≥ 0 then (some false) else ((cohousingref23_In.f k2 x6_2 ((rd_T51 ((rd_T49 l1 x7_1).f1) x8_2).f2)).bind fun t251 => (if t251 ≥ 0 then (some false) else (if x5_2.length < 17592186044416 then (if x6_2.length < 17592186044416 then (cohousingref26_Rings.l1 k2 l1 (x5_2 ++ [(rd_T51 ((rd_T49 l1 x7_1).f1) x8_2).f0]) (x6_2 ++ [(rd_T51 ((rd_T49 l1 x7_1).f1) x8_2).f2]) x7_1 (wrap64 (x8_2 + 1)) l0_0 l0_1) else (none)) else (none)))))) = some r := by rw [if_pos rfl] at H; exact H
            clear H
            have H := H1
            clear H1
            replace H := Option.bind_eq_some_iff.mp H
            obtain ⟨t250, A130, H⟩ := H
            replace H : (if t250 ≥ 0 then (some false) else ((cohousingref23_In.f k2 x6_2 ((rd_T51 ((rd_T49 l1 x7_1).f1) x8_2).f2)).bind fun t251 => (if t251 ≥ 0 then (some false) else (if x5_2.length < 17592186044416 then (if x6_2.length < 17592186044416 then (cohousingref26_Rings.l1 k2 l1 (x5_2 ++ [(rd_T51 ((rd_T49 l1 x7_1).f1) x8_2).f0]) (x6_2 ++ [(rd_T51 ((rd_T49 l1 x7_1).f1) x8_2).f2]) x7_1 (wrap64 (x8_2 + 1)) l0_0 l0_1) else (none)) else (none))))) = some r := H
            have A13 := Aside0.mk A130
            clear A130
            by_cases c14 : t250 ≥ 0
            ·rw [if_pos c14] at H
             have c14b0 : decide (0 ≤ t250) = true := decide_eq_true c14
             clear c14
             obtain rfl := Option.some.inj H
             have p243 : 0 ≤ (x7_1 : Int) := od_
             have q243 : x7_1 < (l1.length : Int) := od_
             obtain ⟨ad243, A243_1, c243_1, e243, hx243_0, hx243_1, hl243_1, hi243_1⟩ := at_T49 HR1.out x7_1 p243 q243
             cases e243
             replace hx243_0 := (HB.out.cell (World.block_lt_of_cell? w _ hx243_0)).trans hx243_0
             replace hx243_1 := (HB.out.cell (World.block_lt_of_cell? w _ hx243_1)).trans hx243_1
             have HR243_1 := Aside0.mk hi243_1
             have HC243_1 := Aside0.mk hl243_1
             clear hi243_1 hl243_1
             replace p243 := eq_true p243
             replace q243 := eq_true q243
             have p246 : 0 ≤ (x7_1 : Int) := od_
             have q246 : x7_1 < (l1.length : Int) := od_
             obtain ⟨ad246, A246_1, c246_1, e246, hx246_0, hx246_1, hl246_1, hi246_1⟩ := at_T49 HR1.out x7_1 p246 q246
             obtain rfl : ad243 = ad246 := (by injection e246)
             replace hx246_0 := (HB.out.cell (World.block_lt_of_cell? w _ hx246_0)).trans hx246_0
             replace hx246_1 := (HB.out.cell (World.block_lt_of_cell? w _ hx246_1)).trans hx246_1
             have HR246_1 := Aside0.mk hi246_1
             have HC246_1 := Aside0.mk hl246_1
             clear hi246_1 hl246_1
             replace p246 := eq_true p246
             replace q246 := eq_true q246
             have ea_ := Option.some.inj (hx243_1.symm.trans hx246_1)
             injection ea_ with ea_ en_ ec_
             subst ea_
             subst ec_
             clear en_
             have p247 : 0 ≤ (x8_2 : Int) := od_
             have q247 : x8_2 < (((rd_T49 l1 x7_1).f1).length : Int) := od_
             obtain ⟨ad247, e247, hx247_0, hx247_1, hx247_2⟩ := at_T51 HR246_1.out x8_2 p247 q247
             cases e247
             replace hx247_0 := (HB.out.cell (World.block_lt_of_cell? w _ hx247_0)).trans hx247_0
             replace hx247_1 := (HB.out.cell (World.block_lt_of_cell? w _ hx247_1)).trans hx247_1
             replace hx247_2 := (HB.out.cell (World.block_lt_of_cell? w _ hx247_2)).trans hx247_2
             replace p247 := eq_true p247
             replace q247 := eq_true q247
             go_wp2_with (first | ((with_reducible refine gate_dst (N := 9) rfl ?_); refine box_event ?hg (N := 9) ?hd (cs := #[.int .i64 0, .int .i64 0, .int .i64 0]) (t := 51) ?hr ?_; (case hd => rfl); (case hg => rfl); (case hr => first | (go_simp; done) | (go_simp; rfl)); intro gb248 hg w15 hbox hb; have n0_ := Aside0.mk (Kd.R_below (rr_ HO_5) hb); have n1_ := Aside0.mk (Kd.R_below (rr_ HO_6) hb); have n2_ := Aside0.mk (blk_below (g := gb242) (o := .cells #[.slice A0_0 l0_0.length c0_0, .slice A0_1 l0_1.length c0_1] 25 (0, 0)) (kk_ BK242) hb); have n3_ := Aside0.mk (below_step (bs_ HB GE242.out) hb); have n4_ := Aside0.mk (hbox); have n5_ := Aside0.mk ((by rw [hg]; exact (below_size (bs_ HB GE242.out)) : w.heap.size ≤ gb248)); have n6_ := Aside0.mk ((by rw [hg]; exact (below_size (bs_ HB GE242.out)) : w.heap.size ≤ gb248)); have n7_ := Aside0.mk ((by rw [hg]; exact Nat.ne_of_lt (blk_lt (g := gb242) (o := .cells #[.slice A0_0 l0_0.length c0_0, .slice A0_1 l0_1.length c0_1] 25 (0, 0)) (kk_ BK242)) : gb242 ≠ gb248)); have n8_ := Aside0.mk ((by rw [hg]; exact Nat.ne_of_gt (blk_lt (g := gb242) (o := .cells #[.slice A0_0 l0_0.length c0_0, .slice A0_1 l0_1.length c0_1] 25 (0, 0)) (kk_ BK242)) : gb248 ≠ gb242)); clear HO_5; clear HO_6; clear BK242; clear HB; have HO_5 := n0_; have HO_6 := n1_; have BK242 := n2_; have HB := n3_; have BK248 := n4_; have GW248 := n5_; have GE248 := n6_; have NB242_248 := n7_; have NB248_242 := n8_; clear n0_ n1_ n2_ n3_ n4_ n5_ n6_ n7_ n8_; clear hb hbox hg; have hnb16 := NB248_242.out; have hnc16 := NB242_248.out; have hcz17_0 : w15.cell? ⟨gb248, 0, none⟩ = some (.int .i64 0) := (blk_cell BK248.out 0).trans rfl; have hcz17_1 : w15.cell? ⟨gb248, 1, none⟩ = some (.int .i64 0) := (blk_cell BK248.out 1).trans rfl; have hcz17_2 : w15.cell? ⟨gb248, 2, none⟩ = some (.int .i64 0) := (blk_cell BK248.out 2).trans rfl; have hfz17_0 := blk_frozen BK248.out 0; have hfz17_1 := blk_frozen BK248.out 1; have hfz17_2 := blk_frozen BK248.out 2; have hcz18_0 : w15.cell? ⟨gb242, 0, none⟩ = some (.slice A0_0 l0_0.length c0_0) := (blk_cell BK242.out 0).trans rfl; have hcz18_1 : w15.cell? ⟨gb242, 1, none⟩ = some (.slice A0_1 l0_1.length c0_1) := (blk_cell BK242.out 1).trans rfl; have hfz18_0 := blk_frozen BK242.out 0; have hfz18_1 := blk_frozen BK242.out 1) | ((with_reducible refine gate_callee (f := 41) rfl ?_); refine gl_ (some 41) Try.func41 #[.agg #[.slice A0_0 l0_0.length c0_0, .slice A0_1 l0_1.length c0_1], .agg #[.int .i64 ((rd_T51 ((rd_T49 l1 x7_1).f1) x8_2).f0), .int .i64 ((rd_T51 ((rd_T49 l1 x7_1).f1) x8_2).f1), .int .i64 ((rd_T51 ((rd_T49 l1 x7_1).f1) x8_2).f2)]] ?_; (with_reducible refine (cohousingref26_move.calls k2 _ _ l0_0 _ _ l0_1 ((rd_T51 ((rd_T49 l1 x7_1).f1) x8_2).f0) ((rd_T51 ((rd_T49 l1 x7_1).f1) x8_2).f1) ((rd_T51 ((rd_T49 l1 x7_1).f1) x8_2).f2) true _ ?side1 ?side2 ?side3 ?side4 A11.out).mono ?_); (case side1 => exact Kd.C_below HR0_0.out (by repeat (first | (with_reducible first | exact HB.out | apply below_alloc | apply pw_below_drewN | apply below_drew1 | refine below_set ?_ GE242.out | refine below_set ?_ GE248.out) | exact HB.out))); (case side2 => exact HC0_0.out); (case side3 => exact Kd.C_below HR0_1.out (by repeat (first | (with_reducible first | exact HB.out | apply below_alloc | apply pw_below_drewN | apply below_drew1 | refine below_set ?_ GE242.out | refine below_set ?_ GE248.out) | exact HB.out))); (case side4 => exact HC0_1.out); rintro e w19 ⟨rfl, hb⟩; refine ⟨_, rfl, ?_⟩; have n0_ := Aside0.mk (Kd.R_below (by (with_reducible repeat (first | apply Kd.R_alloc | apply Kd.R_drewN | apply Kd.R_drew)); exact (Kd.R_mono (Kd.R_far (p := ⟨gb248, 2, none⟩) (Kd.R_far (p := ⟨gb248, 1, none⟩) (Kd.R_far (p := ⟨gb248, 0, none⟩) (Kd.R_types HO_5.out BK248.out (by decide)) (fun _ hk => hk.2) (.int .i64 ((rd_T51 ((rd_T49 l1 x7_1).f1) x8_2).f0))) (fun _ hk => hk.2) (.int .i64 ((rd_T51 ((rd_T49 l1 x7_1).f1) x8_2).f1))) (fun _ hk => hk.2) (.int .i64 ((rd_T51 ((rd_T49 l1 x7_1).f1) x8_2).f2))) (fun _ h_ => h_.1))) hb); have n1_ := Aside0.mk (Kd.R_below (by (with_reducible repeat (first | apply Kd.R_alloc | apply Kd.R_drewN | apply Kd.R_drew)); exact (Kd.R_mono (Kd.R_far (p := ⟨gb248, 2, none⟩) (Kd.R_far (p := ⟨gb248, 1, none⟩) (Kd.R_far (p := ⟨gb248, 0, none⟩) (Kd.R_types HO_6.out BK248.out (by decide)) (fun _ hk => hk.2) (.int .i64 ((rd_T51 ((rd_T49 l1 x7_1).f1) x8_2).f0))) (fun _ hk => hk.2) (.int .i64 ((rd_T51 ((rd_T49 l1 x7_1).f1) x8_2).f1))) (fun _ hk => hk.2) (.int .i64 ((rd_T51 ((rd_T49 l1 x7_1).f1) x8_2).f2))) (fun _ h_ => h_.1))) hb); have n2_ := Aside0.mk (blk_below (g := gb242) (o := .cells #[.slice A0_0 l0_0.length c0_0, .slice A0_1 l0_1.length c0_1] 25 (0, 0)) (by (with_reducible repeat (first | refine blk_drewN ?_ _ | refine blk_drew ?_ | refine blk_alloc ?_ _)); refine blk_far ?_ NB242_248.out _; (with_reducible repeat (first | refine blk_drewN ?_ _ | refine blk_drew ?_ | refine blk_alloc ?_ _)); refine blk_far ?_ NB242_248.out _; (with_reducible repeat (first | refine blk_drewN ?_ _ | refine blk_drew ?_ | refine blk_alloc ?_ _)); refine blk_far ?_ NB242_248.out _; (with_reducible repeat (first | refine blk_drewN ?_ _ | refine blk_drew ?_ | refine blk_alloc ?_ _)); exact BK242.out) hb); have n3_ := Aside0.mk (blk_below (g := gb248) (o := .cells #[.int .i64 ((rd_T51 ((rd_T49 l1 x7_1).f1) x8_2).f0), .int .i64 ((rd_T51 ((rd_T49 l1 x7_1).f1) x8_2).f1), .int .i64 ((rd_T51 ((rd_T49 l1 x7_1).f1) x8_2).f2)] 51 (0, 0)) (by (with_reducible repeat (first | refine blk_drewN ?_ _ | refine blk_drew ?_ | refine blk_alloc ?_ _)); refine blk_put (cs := #[.int .i64 ((rd_T51 ((rd_T49 l1 x7_1).f1) x8_2).f0), .int .i64 ((rd_T51 ((rd_T49 l1 x7_1).f1) x8_2).f1), .int .i64 0]) ?_ 2 _ rfl; (with_reducible repeat (first | refine blk_drewN ?_ _ | refine blk_drew ?_ | refine blk_alloc ?_ _)); refine blk_put (cs := #[.int .i64 ((rd_T51 ((rd_T49 l1 x7_1).f1) x8_2).f0), .int .i64 0, .int .i64 0]) ?_ 1 _ rfl; (with_reducible repeat (first | refine blk_drewN ?_ _ | refine blk_drew ?_ | refine blk_alloc ?_ _)); refine blk_put (cs := #[.int .i64 0, .int .i64 0, .int .i64 0]) ?_ 0 _ rfl; (with_reducible repeat (first | refine blk_drewN ?_ _ | refine blk_drew ?_ | refine blk_alloc ?_ _)); exact BK248.out) hb); have n4_ := Aside0.mk (below_step (by repeat (first | (with_reducible first | exact HB.out | apply below_alloc | apply pw_below_drewN | apply below_drew1 | refine below_set ?_ GE242.out | refine below_set ?_ GE248.out) | exact HB.out)) hb); clear HO_5; clear HO_6; clear BK242; clear BK248; clear HB; have HO_5 := n0_; have HO_6 := n1_; have BK242 := n2_; have BK248 := n3_; have HB := n4_; clear n0_ n1_ n2_ n3_ n4_; (try clear hb); (try clear hb2); (try clear hk); (try clear hi); have hcz20_0 : w19.cell? ⟨gb248, 0, none⟩ = some (.int .i64 ((rd_T51 ((rd_T49 l1 x7_1).f1) x8_2).f0)) := (blk_cell BK248.out 0).trans rfl; have hcz20_1 : w19.cell? ⟨gb248, 1, none⟩ = some (.int .i64 ((rd_T51 ((rd_T49 l1 x7_1).f1) x8_2).f1)) := (blk_cell BK248.out 1).trans rfl; have hcz20_2 : w19.cell? ⟨gb248, 2, none⟩ = some (.int .i64 ((rd_T51 ((rd_T49 l1 x7_1).f1) x8_2).f2)) := (blk_cell BK248.out 2).trans rfl; have hfz20_0 := blk_frozen BK248.out 0; have hfz20_1 := blk_frozen BK248.out 1; have hfz20_2 := blk_frozen BK248.out 2; obtain ⟨Ao21, co21, eo21⟩ := Kd.R_slice HO_5.out; subst eo21) | (go_at_call 24; (with_reducible refine (cohousingref23_In.calls k2 _ _ x5_2 ((rd_T51 ((rd_T49 l1 x7_1).f1) x8_2).f0) t250 _ ?side1 ?side2 A13.out).mono ?_); (case side1 => exact cc_ ((Kd.R_reads' HO_5.out).2.2)); (case side2 => exact (Kd.R_reads' HO_5.out).2.1); rintro e w' ⟨rfl, ⟨nd, rfl⟩⟩))
             go_ret
             exact ⟨ew_, by repeat (first | (with_reducible first | exact HB.out | apply below_alloc | apply pw_below_drewN | apply below_drew1 | refine below_set ?_ GE242.out | refine below_set ?_ GE248.out) | exact HB.out)⟩
            ·rw [if_neg c14] at H
             have c14b0 : decide (0 ≤ t250) = false := decide_eq_false c14
             clear c14
             replace H := Option.bind_eq_some_iff.mp H
             obtain ⟨t251, A220, H⟩ := H
             replace H : (if t251 ≥ 0 then (some false) else (if x5_2.length < 17592186044416 then (if x6_2.length < 17592186044416 then (cohousingref26_Rings.l1 k2 l1 (x5_2 ++ [(rd_T51 ((rd_T49 l1 x7_1).f1) x8_2).f0]) (x6_2 ++ [(rd_T51 ((rd_T49 l1 x7_1).f1) x8_2).f2]) x7_1 (wrap64 (x8_2 + 1)) l0_0 l0_1) else (none)) else (none))) = some r := H
             have A22 := Aside0.mk A220
             clear A220
             by_cases c23 : t251 ≥ 0
             ·rw [if_pos c23] at H
              have c23b0 : decide (0 ≤ t251) = true := decide_eq_true c23
              clear c23
              obtain rfl := Option.some.inj H
              have p243 : 0 ≤ (x7_1 : Int) := od_
              have q243 : x7_1 < (l1.length : Int) := od_
              obtain ⟨ad243, A243_1, c243_1, e243, hx243_0, hx243_1, hl243_1, hi243_1⟩ := at_T49 HR1.out x7_1 p243 q243
              cases e243
              replace hx243_0 := (HB.out.cell (World.block_lt_of_cell? w _ hx243_0)).trans hx243_0
              replace hx243_1 := (HB.out.cell (World.block_lt_of_cell? w _ hx243_1)).trans hx243_1
              have HR243_1 := Aside0.mk hi243_1
              have HC243_1 := Aside0.mk hl243_1
              clear hi243_1 hl243_1
              replace p243 := eq_true p243
              replace q243 := eq_true q243
              have p246 : 0 ≤ (x7_1 : Int) := od_
              have q246 : x7_1 < (l1.length : Int) := od_
              obtain ⟨ad246, A246_1, c246_1, e246, hx246_0, hx246_1, hl246_1, hi246_1⟩ := at_T49 HR1.out x7_1 p246 q246
              obtain rfl : ad243 = ad246 := (by injection e246)
              replace hx246_0 := (HB.out.cell (World.block_lt_of_cell? w _ hx246_0)).trans hx246_0
              replace hx246_1 := (HB.out.cell (World.block_lt_of_cell? w _ hx246_1)).trans hx246_1
              have HR246_1 := Aside0.mk hi246_1
              have HC246_1 := Aside0.mk hl246_1
              clear hi246_1 hl246_1
              replace p246 := eq_true p246
              replace q246 := eq_true q246
              have ea_ := Option.some.inj (hx243_1.symm.trans hx246_1)
              injection ea_ with ea_ en_ ec_
              subst ea_
              subst ec_
              clear en_
              have p247 : 0 ≤ (x8_2 : Int) := od_
              have q247 : x8_2 < (((rd_T49 l1 x7_1).f1).length : Int) := od_
              obtain ⟨ad247, e247, hx247_0, hx247_1, hx247_2⟩ := at_T51 HR246_1.out x8_2 p247 q247
              cases e247
              replace hx247_0 := (HB.out.cell (World.block_lt_of_cell? w _ hx247_0)).trans hx247_0
              replace hx247_1 := (HB.out.cell (World.block_lt_of_cell? w _ hx247_1)).trans hx247_1
              replace hx247_2 := (HB.out.cell (World.block_lt_of_cell? w _ hx247_2)).trans hx247_2
              replace p247 := eq_true p247
              replace q247 := eq_true q247
              go_wp2_with (first | ((with_reducible refine gate_dst (N := 9) rfl ?_); refine box_event ?hg (N := 9) ?hd (cs := #[.int .i64 0, .int .i64 0, .int .i64 0]) (t := 51) ?hr ?_; (case hd => rfl); (case hg => rfl); (case hr => first | (go_simp; done) | (go_simp; rfl)); intro gb248 hg w24 hbox hb; have n0_ := Aside0.mk (Kd.R_below (rr_ HO_5) hb); have n1_ := Aside0.mk (Kd.R_below (rr_ HO_6) hb); have n2_ := Aside0.mk (blk_below (g := gb242) (o := .cells #[.slice A0_0 l0_0.length c0_0, .slice A0_1 l0_1.length c0_1] 25 (0, 0)) (kk_ BK242) hb); have n3_ := Aside0.mk (below_step (bs_ HB GE242.out) hb); have n4_ := Aside0.mk (hbox); have n5_ := Aside0.mk ((by rw [hg]; exact (below_size (bs_ HB GE242.out)) : w.heap.size ≤ gb248)); have n6_ := Aside0.mk ((by rw [hg]; exact (below_size (bs_ HB GE242.out)) : w.heap.size ≤ gb248)); have n7_ := Aside0.mk ((by rw [hg]; exact Nat.ne_of_lt (blk_lt (g := gb242) (o := .cells #[.slice A0_0 l0_0.length c0_0, .slice A0_1 l0_1.length c0_1] 25 (0, 0)) (kk_ BK242)) : gb242 ≠ gb248)); have n8_ := Aside0.mk ((by rw [hg]; exact Nat.ne_of_gt (blk_lt (g := gb242) (o := .cells #[.slice A0_0 l0_0.length c0_0, .slice A0_1 l0_1.length c0_1] 25 (0, 0)) (kk_ BK242)) : gb248 ≠ gb242)); clear HO_5; clear HO_6; clear BK242; clear HB; have HO_5 := n0_; have HO_6 := n1_; have BK242 := n2_; have HB := n3_; have BK248 := n4_; have GW248 := n5_; have GE248 := n6_; have NB242_248 := n7_; have NB248_242 := n8_; clear n0_ n1_ n2_ n3_ n4_ n5_ n6_ n7_ n8_; clear hb hbox hg; have hnb25 := NB248_242.out; have hnc25 := NB242_248.out; have hcz26_0 : w24.cell? ⟨gb248, 0, none⟩ = some (.int .i64 0) := (blk_cell BK248.out 0).trans rfl; have hcz26_1 : w24.cell? ⟨gb248, 1, none⟩ = some (.int .i64 0) := (blk_cell BK248.out 1).trans rfl; have hcz26_2 : w24.cell? ⟨gb248, 2, none⟩ = some (.int .i64 0) := (blk_cell BK248.out 2).trans rfl; have hfz26_0 := blk_frozen BK248.out 0; have hfz26_1 := blk_frozen BK248.out 1; have hfz26_2 := blk_frozen BK248.out 2; have hcz27_0 : w24.cell? ⟨gb242, 0, none⟩ = some (.slice A0_0 l0_0.length c0_0) := (blk_cell BK242.out 0).trans rfl; have hcz27_1 : w24.cell? ⟨gb242, 1, none⟩ = some (.slice A0_1 l0_1.length c0_1) := (blk_cell BK242.out 1).trans rfl; have hfz27_0 := blk_frozen BK242.out 0; have hfz27_1 := blk_frozen BK242.out 1) | ((with_reducible refine gate_callee (f := 41) rfl ?_); refine gl_ (some 41) Try.func41 #[.agg #[.slice A0_0 l0_0.length c0_0, .slice A0_1 l0_1.length c0_1], .agg #[.int .i64 ((rd_T51 ((rd_T49 l1 x7_1).f1) x8_2).f0), .int .i64 ((rd_T51 ((rd_T49 l1 x7_1).f1) x8_2).f1), .int .i64 ((rd_T51 ((rd_T49 l1 x7_1).f1) x8_2).f2)]] ?_; (with_reducible refine (cohousingref26_move.calls k2 _ _ l0_0 _ _ l0_1 ((rd_T51 ((rd_T49 l1 x7_1).f1) x8_2).f0) ((rd_T51 ((rd_T49 l1 x7_1).f1) x8_2).f1) ((rd_T51 ((rd_T49 l1 x7_1).f1) x8_2).f2) true _ ?side1 ?side2 ?side3 ?side4 A11.out).mono ?_); (case side1 => exact Kd.C_below HR0_0.out (by repeat (first | (with_reducible first | exact HB.out | apply below_alloc | apply pw_below_drewN | apply below_drew1 | refine below_set ?_ GE242.out | refine below_set ?_ GE248.out) | exact HB.out))); (case side2 => exact HC0_0.out); (case side3 => exact Kd.C_below HR0_1.out (by repeat (first | (with_reducible first | exact HB.out | apply below_alloc | apply pw_below_drewN | apply below_drew1 | refine below_set ?_ GE242.out | refine below_set ?_ GE248.out) | exact HB.out))); (case side4 => exact HC0_1.out); rintro e w28 ⟨rfl, hb⟩; refine ⟨_, rfl, ?_⟩; have n0_ := Aside0.mk (Kd.R_below (by (with_reducible repeat (first | apply Kd.R_alloc | apply Kd.R_drewN | apply Kd.R_drew)); exact (Kd.R_mono (Kd.R_far (p := ⟨gb248, 2, none⟩) (Kd.R_far (p := ⟨gb248, 1, none⟩) (Kd.R_far (p := ⟨gb248, 0, none⟩) (Kd.R_types HO_5.out BK248.out (by decide)) (fun _ hk => hk.2) (.int .i64 ((rd_T51 ((rd_T49 l1 x7_1).f1) x8_2).f0))) (fun _ hk => hk.2) (.int .i64 ((rd_T51 ((rd_T49 l1 x7_1).f1) x8_2).f1))) (fun _ hk => hk.2) (.int .i64 ((rd_T51 ((rd_T49 l1 x7_1).f1) x8_2).f2))) (fun _ h_ => h_.1))) hb); have n1_ := Aside0.mk (Kd.R_below (by (with_reducible repeat (first | apply Kd.R_alloc | apply Kd.R_drewN | apply Kd.R_drew)); exact (Kd.R_mono (Kd.R_far (p := ⟨gb248, 2, none⟩) (Kd.R_far (p := ⟨gb248, 1, none⟩) (Kd.R_far (p := ⟨gb248, 0, none⟩) (Kd.R_types HO_6.out BK248.out (by decide)) (fun _ hk => hk.2) (.int .i64 ((rd_T51 ((rd_T49 l1 x7_1).f1) x8_2).f0))) (fun _ hk => hk.2) (.int .i64 ((rd_T51 ((rd_T49 l1 x7_1).f1) x8_2).f1))) (fun _ hk => hk.2) (.int .i64 ((rd_T51 ((rd_T49 l1 x7_1).f1) x8_2).f2))) (fun _ h_ => h_.1))) hb); have n2_ := Aside0.mk (blk_below (g := gb242) (o := .cells #[.slice A0_0 l0_0.length c0_0, .slice A0_1 l0_1.length c0_1] 25 (0, 0)) (by (with_reducible repeat (first | refine blk_drewN ?_ _ | refine blk_drew ?_ | refine blk_alloc ?_ _)); refine blk_far ?_ NB242_248.out _; (with_reducible repeat (first | refine blk_drewN ?_ _ | refine blk_drew ?_ | refine blk_alloc ?_ _)); refine blk_far ?_ NB242_248.out _; (with_reducible repeat (first | refine blk_drewN ?_ _ | refine blk_drew ?_ | refine blk_alloc ?_ _)); refine blk_far ?_ NB242_248.out _; (with_reducible repeat (first | refine blk_drewN ?_ _ | refine blk_drew ?_ | refine blk_alloc ?_ _)); exact BK242.out) hb); have n3_ := Aside0.mk (blk_below (g := gb248) (o := .cells #[.int .i64 ((rd_T51 ((rd_T49 l1 x7_1).f1) x8_2).f0), .int .i64 ((rd_T51 ((rd_T49 l1 x7_1).f1) x8_2).f1), .int .i64 ((rd_T51 ((rd_T49 l1 x7_1).f1) x8_2).f2)] 51 (0, 0)) (by (with_reducible repeat (first | refine blk_drewN ?_ _ | refine blk_drew ?_ | refine blk_alloc ?_ _)); refine blk_put (cs := #[.int .i64 ((rd_T51 ((rd_T49 l1 x7_1).f1) x8_2).f0), .int .i64 ((rd_T51 ((rd_T49 l1 x7_1).f1) x8_2).f1), .int .i64 0]) ?_ 2 _ rfl; (with_reducible repeat (first | refine blk_drewN ?_ _ | refine blk_drew ?_ | refine blk_alloc ?_ _)); refine blk_put (cs := #[.int .i64 ((rd_T51 ((rd_T49 l1 x7_1).f1) x8_2).f0), .int .i64 0, .int .i64 0]) ?_ 1 _ rfl; (with_reducible repeat (first | refine blk_drewN ?_ _ | refine blk_drew ?_ | refine blk_alloc ?_ _)); refine blk_put (cs := #[.int .i64 0, .int .i64 0, .int .i64 0]) ?_ 0 _ rfl; (with_reducible repeat (first | refine blk_drewN ?_ _ | refine blk_drew ?_ | refine blk_alloc ?_ _)); exact BK248.out) hb); have n4_ := Aside0.mk (below_step (by repeat (first | (with_reducible first | exact HB.out | apply below_alloc | apply pw_below_drewN | apply below_drew1 | refine below_set ?_ GE242.out | refine below_set ?_ GE248.out) | exact HB.out)) hb); clear HO_5; clear HO_6; clear BK242; clear BK248; clear HB; have HO_5 := n0_; have HO_6 := n1_; have BK242 := n2_; have BK248 := n3_; have HB := n4_; clear n0_ n1_ n2_ n3_ n4_; (try clear hb); (try clear hb2); (try clear hk); (try clear hi); have hcz29_0 : w28.cell? ⟨gb248, 0, none⟩ = some (.int .i64 ((rd_T51 ((rd_T49 l1 x7_1).f1) x8_2).f0)) := (blk_cell BK248.out 0).trans rfl; have hcz29_1 : w28.cell? ⟨gb248, 1, none⟩ = some (.int .i64 ((rd_T51 ((rd_T49 l1 x7_1).f1) x8_2).f1)) := (blk_cell BK248.out 1).trans rfl; have hcz29_2 : w28.cell? ⟨gb248, 2, none⟩ = some (.int .i64 ((rd_T51 ((rd_T49 l1 x7_1).f1) x8_2).f2)) := (blk_cell BK248.out 2).trans rfl; have hfz29_0 := blk_frozen BK248.out 0; have hfz29_1 := blk_frozen BK248.out 1; have hfz29_2 := blk_frozen BK248.out 2; obtain ⟨Ao30, co30, eo30⟩ := Kd.R_slice HO_5.out; subst eo30) | (go_at_call 24; (with_reducible refine (cohousingref23_In.calls k2 _ _ x5_2 ((rd_T51 ((rd_T49 l1 x7_1).f1) x8_2).f0) t250 _ ?side1 ?side2 A13.out).mono ?_); (case side1 => exact cc_ ((Kd.R_reads' HO_5.out).2.2)); (case side2 => exact (Kd.R_reads' HO_5.out).2.1); rintro e w' ⟨rfl, ⟨nd, rfl⟩⟩; obtain ⟨Ao31, co31, eo31⟩ := Kd.R_slice HO_6.out; subst eo31) | (go_at_call 24; (with_reducible refine (cohousingref23_In.calls k2 _ _ x6_2 ((rd_T51 ((rd_T49 l1 x7_1).f1) x8_2).f2) t251 _ ?side1 ?side2 A22.out).mono ?_); (case side1 => exact cc_ ((Kd.R_reads' HO_6.out).2.2)); (case side2 => exact (Kd.R_reads' HO_6.out).2.1); rintro e w' ⟨rfl, ⟨nd, rfl⟩⟩))
              go_ret
              exact ⟨ew_, by repeat (first | (with_reducible first | exact HB.out | apply below_alloc | apply pw_below_drewN | apply below_drew1 | refine below_set ?_ GE242.out | refine below_set ?_ GE248.out) | exact HB.out)⟩
             ·rw [if_neg c23] at H
              have c23b0 : decide (0 ≤ t251) = false := decide_eq_false c23
              clear c23
              by_cases c32 : x5_2.length < 17592186044416
              ·rw [if_pos c32] at H
               have LMc32 := Aside0.mk c32
               clear c32
               obtain ⟨y252, hy252⟩ : ∃ y_ : List Int, y_ = (x5_2 ++ [(rd_T51 ((rd_T49 l1 x7_1).f1) x8_2).f0]) := ⟨_, rfl⟩
               replace H : (if x6_2.length < 17592186044416 then (cohousingref26_Rings.l1 k2 l1 y252 (x6_2 ++ [(rd_T51 ((rd_T49 l1 x7_1).f1) x8_2).f2]) x7_1 (wrap64 (x8_2 + 1)) l0_0 l0_1) else (none)) = some r := by first | (rw [hy252]; with_reducible exact H) | (have H2_ := (Option.bind_some _ _).symm.trans H; rw [hy252]; with_reducible exact H2_) | (have H2_ := (Option.bind_some _ _).symm.trans H; with_reducible exact H2_) | with_reducible exact H | (rw [hy252]; exact H) | exact H
               have Ny252 := Aside0.mk hy252
               clear hy252
               by_cases c33 : x6_2.length < 17592186044416
               ·rw [if_pos c33] at H
                have LMc33 := Aside0.mk c33
                clear c33
                obtain ⟨y255, hy255⟩ : ∃ y_ : List Int, y_ = (x6_2 ++ [(rd_T51 ((rd_T49 l1 x7_1).f1) x8_2).f2]) := ⟨_, rfl⟩
                replace H : (cohousingref26_Rings.l1 k2 l1 y252 y255 x7_1 (wrap64 (x8_2 + 1)) l0_0 l0_1) = some r := by first | (rw [hy255]; with_reducible exact H) | (have H2_ := (Option.bind_some _ _).symm.trans H; rw [hy255]; with_reducible exact H2_) | (have H2_ := (Option.bind_some _ _).symm.trans H; with_reducible exact H2_) | with_reducible exact H | (rw [hy255]; exact H) | exact H
                have Ny255 := Aside0.mk hy255
                clear hy255
                have H' := Aside0.mk H
                clear H
                have p243 : 0 ≤ (x7_1 : Int) := od_
                have q243 : x7_1 < (l1.length : Int) := od_
                obtain ⟨ad243, A243_1, c243_1, e243, hx243_0, hx243_1, hl243_1, hi243_1⟩ := at_T49 HR1.out x7_1 p243 q243
                cases e243
                replace hx243_0 := (HB.out.cell (World.block_lt_of_cell? w _ hx243_0)).trans hx243_0
                replace hx243_1 := (HB.out.cell (World.block_lt_of_cell? w _ hx243_1)).trans hx243_1
                have HR243_1 := Aside0.mk hi243_1
                have HC243_1 := Aside0.mk hl243_1
                clear hi243_1 hl243_1
                replace p243 := eq_true p243
                replace q243 := eq_true q243
                have p246 : 0 ≤ (x7_1 : Int) := od_
                have q246 : x7_1 < (l1.length : Int) := od_
                obtain ⟨ad246, A246_1, c246_1, e246, hx246_0, hx246_1, hl246_1, hi246_1⟩ := at_T49 HR1.out x7_1 p246 q246
                obtain rfl : ad243 = ad246 := (by injection e246)
                replace hx246_0 := (HB.out.cell (World.block_lt_of_cell? w _ hx246_0)).trans hx246_0
                replace hx246_1 := (HB.out.cell (World.block_lt_of_cell? w _ hx246_1)).trans hx246_1
                have HR246_1 := Aside0.mk hi246_1
                have HC246_1 := Aside0.mk hl246_1
                clear hi246_1 hl246_1
                replace p246 := eq_true p246
                replace q246 := eq_true q246
                have ea_ := Option.some.inj (hx243_1.symm.trans hx246_1)
                injection ea_ with ea_ en_ ec_
                subst ea_
                subst ec_
                clear en_
                have p247 : 0 ≤ (x8_2 : Int) := od_
                have q247 : x8_2 < (((rd_T49 l1 x7_1).f1).length : Int) := od_
                obtain ⟨ad247, e247, hx247_0, hx247_1, hx247_2⟩ := at_T51 HR246_1.out x8_2 p247 q247
                cases e247
                replace hx247_0 := (HB.out.cell (World.block_lt_of_cell? w _ hx247_0)).trans hx247_0
                replace hx247_1 := (HB.out.cell (World.block_lt_of_cell? w _ hx247_1)).trans hx247_1
                replace hx247_2 := (HB.out.cell (World.block_lt_of_cell? w _ hx247_2)).trans hx247_2
                replace p247 := eq_true p247
                replace q247 := eq_true q247
                go_wp2_with (first | ((with_reducible refine gate_dst (N := 9) rfl ?_); refine box_event ?hg (N := 9) ?hd (cs := #[.int .i64 0, .int .i64 0, .int .i64 0]) (t := 51) ?hr ?_; (case hd => rfl); (case hg => rfl); (case hr => first | (go_simp; done) | (go_simp; rfl)); intro gb248 hg w34 hbox hb; have n0_ := Aside0.mk (Kd.R_below (rr_ HO_5) hb); have n1_ := Aside0.mk (Kd.R_below (rr_ HO_6) hb); have n2_ := Aside0.mk (blk_below (g := gb242) (o := .cells #[.slice A0_0 l0_0.length c0_0, .slice A0_1 l0_1.length c0_1] 25 (0, 0)) (kk_ BK242) hb); have n3_ := Aside0.mk (below_step (bs_ HB GE242.out) hb); have n4_ := Aside0.mk (hbox); have n5_ := Aside0.mk ((by rw [hg]; exact (below_size (bs_ HB GE242.out)) : w.heap.size ≤ gb248)); have n6_ := Aside0.mk ((by rw [hg]; exact (below_size (bs_ HB GE242.out)) : w.heap.size ≤ gb248)); have n7_ := Aside0.mk ((by rw [hg]; exact Nat.ne_of_lt (blk_lt (g := gb242) (o := .cells #[.slice A0_0 l0_0.length c0_0, .slice A0_1 l0_1.length c0_1] 25 (0, 0)) (kk_ BK242)) : gb242 ≠ gb248)); have n8_ := Aside0.mk ((by rw [hg]; exact Nat.ne_of_gt (blk_lt (g := gb242) (o := .cells #[.slice A0_0 l0_0.length c0_0, .slice A0_1 l0_1.length c0_1] 25 (0, 0)) (kk_ BK242)) : gb248 ≠ gb242)); clear HO_5; clear HO_6; clear BK242; clear HB; have HO_5 := n0_; have HO_6 := n1_; have BK242 := n2_; have HB := n3_; have BK248 := n4_; have GW248 := n5_; have GE248 := n6_; have NB242_248 := n7_; have NB248_242 := n8_; clear n0_ n1_ n2_ n3_ n4_ n5_ n6_ n7_ n8_; clear hb hbox hg; have hnb35 := NB248_242.out; have hnc35 := NB242_248.out; have hcz36_0 : w34.cell? ⟨gb248, 0, none⟩ = some (.int .i64 0) := (blk_cell BK248.out 0).trans rfl; have hcz36_1 : w34.cell? ⟨gb248, 1, none⟩ = some (.int .i64 0) := (blk_cell BK248.out 1).trans rfl; have hcz36_2 : w34.cell? ⟨gb248, 2, none⟩ = some (.int .i64 0) := (blk_cell BK248.out 2).trans rfl; have hfz36_0 := blk_frozen BK248.out 0; have hfz36_1 := blk_frozen BK248.out 1; have hfz36_2 := blk_frozen BK248.out 2; have hcz37_0 : w34.cell? ⟨gb242, 0, none⟩ = some (.slice A0_0 l0_0.length c0_0) := (blk_cell BK242.out 0).trans rfl; have hcz37_1 : w34.cell? ⟨gb242, 1, none⟩ = some (.slice A0_1 l0_1.length c0_1) := (blk_cell BK242.out 1).trans rfl; have hfz37_0 := blk_frozen BK242.out 0; have hfz37_1 := blk_frozen BK242.out 1) | ((with_reducible refine gate_callee (f := 41) rfl ?_); refine gl_ (some 41) Try.func41 #[.agg #[.slice A0_0 l0_0.length c0_0, .slice A0_1 l0_1.length c0_1], .agg #[.int .i64 ((rd_T51 ((rd_T49 l1 x7_1).f1) x8_2).f0), .int .i64 ((rd_T51 ((rd_T49 l1 x7_1).f1) x8_2).f1), .int .i64 ((rd_T51 ((rd_T49 l1 x7_1).f1) x8_2).f2)]] ?_; (with_reducible refine (cohousingref26_move.calls k2 _ _ l0_0 _ _ l0_1 ((rd_T51 ((rd_T49 l1 x7_1).f1) x8_2).f0) ((rd_T51 ((rd_T49 l1 x7_1).f1) x8_2).f1) ((rd_T51 ((rd_T49 l1 x7_1).f1) x8_2).f2) true _ ?side1 ?side2 ?side3 ?side4 A11.out).mono ?_); (case side1 => exact Kd.C_below HR0_0.out (by repeat (first | (with_reducible first | exact HB.out | apply below_alloc | apply pw_below_drewN | apply below_drew1 | refine below_set ?_ GE242.out | refine below_set ?_ GE248.out) | exact HB.out))); (case side2 => exact HC0_0.out); (case side3 => exact Kd.C_below HR0_1.out (by repeat (first | (with_reducible first | exact HB.out | apply below_alloc | apply pw_below_drewN | apply below_drew1 | refine below_set ?_ GE242.out | refine below_set ?_ GE248.out) | exact HB.out))); (case side4 => exact HC0_1.out); rintro e w38 ⟨rfl, hb⟩; refine ⟨_, rfl, ?_⟩; have n0_ := Aside0.mk (Kd.R_below (by (with_reducible repeat (first | apply Kd.R_alloc | apply Kd.R_drewN | apply Kd.R_drew)); exact (Kd.R_mono (Kd.R_far (p := ⟨gb248, 2, none⟩) (Kd.R_far (p := ⟨gb248, 1, none⟩) (Kd.R_far (p := ⟨gb248, 0, none⟩) (Kd.R_types HO_5.out BK248.out (by decide)) (fun _ hk => hk.2) (.int .i64 ((rd_T51 ((rd_T49 l1 x7_1).f1) x8_2).f0))) (fun _ hk => hk.2) (.int .i64 ((rd_T51 ((rd_T49 l1 x7_1).f1) x8_2).f1))) (fun _ hk => hk.2) (.int .i64 ((rd_T51 ((rd_T49 l1 x7_1).f1) x8_2).f2))) (fun _ h_ => h_.1))) hb); have n1_ := Aside0.mk (Kd.R_below (by (with_reducible repeat (first | apply Kd.R_alloc | apply Kd.R_drewN | apply Kd.R_drew)); exact (Kd.R_mono (Kd.R_far (p := ⟨gb248, 2, none⟩) (Kd.R_far (p := ⟨gb248, 1, none⟩) (Kd.R_far (p := ⟨gb248, 0, none⟩) (Kd.R_types HO_6.out BK248.out (by decide)) (fun _ hk => hk.2) (.int .i64 ((rd_T51 ((rd_T49 l1 x7_1).f1) x8_2).f0))) (fun _ hk => hk.2) (.int .i64 ((rd_T51 ((rd_T49 l1 x7_1).f1) x8_2).f1))) (fun _ hk => hk.2) (.int .i64 ((rd_T51 ((rd_T49 l1 x7_1).f1) x8_2).f2))) (fun _ h_ => h_.1))) hb); have n2_ := Aside0.mk (blk_below (g := gb242) (o := .cells #[.slice A0_0 l0_0.length c0_0, .slice A0_1 l0_1.length c0_1] 25 (0, 0)) (by (with_reducible repeat (first | refine blk_drewN ?_ _ | refine blk_drew ?_ | refine blk_alloc ?_ _)); refine blk_far ?_ NB242_248.out _; (with_reducible repeat (first | refine blk_drewN ?_ _ | refine blk_drew ?_ | refine blk_alloc ?_ _)); refine blk_far ?_ NB242_248.out _; (with_reducible repeat (first | refine blk_drewN ?_ _ | refine blk_drew ?_ | refine blk_alloc ?_ _)); refine blk_far ?_ NB242_248.out _; (with_reducible repeat (first | refine blk_drewN ?_ _ | refine blk_drew ?_ | refine blk_alloc ?_ _)); exact BK242.out) hb); have n3_ := Aside0.mk (blk_below (g := gb248) (o := .cells #[.int .i64 ((rd_T51 ((rd_T49 l1 x7_1).f1) x8_2).f0), .int .i64 ((rd_T51 ((rd_T49 l1 x7_1).f1) x8_2).f1), .int .i64 ((rd_T51 ((rd_T49 l1 x7_1).f1) x8_2).f2)] 51 (0, 0)) (by (with_reducible repeat (first | refine blk_drewN ?_ _ | refine blk_drew ?_ | refine blk_alloc ?_ _)); refine blk_put (cs := #[.int .i64 ((rd_T51 ((rd_T49 l1 x7_1).f1) x8_2).f0), .int .i64 ((rd_T51 ((rd_T49 l1 x7_1).f1) x8_2).f1), .int .i64 0]) ?_ 2 _ rfl; (with_reducible repeat (first | refine blk_drewN ?_ _ | refine blk_drew ?_ | refine blk_alloc ?_ _)); refine blk_put (cs := #[.int .i64 ((rd_T51 ((rd_T49 l1 x7_1).f1) x8_2).f0), .int .i64 0, .int .i64 0]) ?_ 1 _ rfl; (with_reducible repeat (first | refine blk_drewN ?_ _ | refine blk_drew ?_ | refine blk_alloc ?_ _)); refine blk_put (cs := #[.int .i64 0, .int .i64 0, .int .i64 0]) ?_ 0 _ rfl; (with_reducible repeat (first | refine blk_drewN ?_ _ | refine blk_drew ?_ | refine blk_alloc ?_ _)); exact BK248.out) hb); have n4_ := Aside0.mk (below_step (by repeat (first | (with_reducible first | exact HB.out | apply below_alloc | apply pw_below_drewN | apply below_drew1 | refine below_set ?_ GE242.out | refine below_set ?_ GE248.out) | exact HB.out)) hb); clear HO_5; clear HO_6; clear BK242; clear BK248; clear HB; have HO_5 := n0_; have HO_6 := n1_; have BK242 := n2_; have BK248 := n3_; have HB := n4_; clear n0_ n1_ n2_ n3_ n4_; (try clear hb); (try clear hb2); (try clear hk); (try clear hi); have hcz39_0 : w38.cell? ⟨gb248, 0, none⟩ = some (.int .i64 ((rd_T51 ((rd_T49 l1 x7_1).f1) x8_2).f0)) := (blk_cell BK248.out 0).trans rfl; have hcz39_1 : w38.cell? ⟨gb248, 1, none⟩ = some (.int .i64 ((rd_T51 ((rd_T49 l1 x7_1).f1) x8_2).f1)) := (blk_cell BK248.out 1).trans rfl; have hcz39_2 : w38.cell? ⟨gb248, 2, none⟩ = some (.int .i64 ((rd_T51 ((rd_T49 l1 x7_1).f1) x8_2).f2)) := (blk_cell BK248.out 2).trans rfl; have hfz39_0 := blk_frozen BK248.out 0; have hfz39_1 := blk_frozen BK248.out 1; have hfz39_2 := blk_frozen BK248.out 2; obtain ⟨Ao40, co40, eo40⟩ := Kd.R_slice HO_5.out; subst eo40) | (go_at_call 24; (with_reducible refine (cohousingref23_In.calls k2 _ _ x5_2 ((rd_T51 ((rd_T49 l1 x7_1).f1) x8_2).f0) t250 _ ?side1 ?side2 A13.out).mono ?_); (case side1 => exact cc_ ((Kd.R_reads' HO_5.out).2.2)); (case side2 => exact (Kd.R_reads' HO_5.out).2.1); rintro e w' ⟨rfl, ⟨nd, rfl⟩⟩; obtain ⟨Ao41, co41, eo41⟩ := Kd.R_slice HO_6.out; subst eo41) | (go_at_call 24; (with_reducible refine (cohousingref23_In.calls k2 _ _ x6_2 ((rd_T51 ((rd_T49 l1 x7_1).f1) x8_2).f2) t251 _ ?side1 ?side2 A22.out).mono ?_); (case side1 => exact cc_ ((Kd.R_reads' HO_6.out).2.2)); (case side2 => exact (Kd.R_reads' HO_6.out).2.1); rintro e w' ⟨rfl, ⟨nd, rfl⟩⟩) | ((with_reducible refine gate_builtin (b := .append) (xs := #[.tmp 58, .tmp 61]) rfl ?_); at_builtin; refine Kd.R_append (Kd.int .i64) (w0 := w) w.heap.size rfl (.tmp 58) (.tmp 61) 29 3 (.int .i64 0) 8 rfl Try.underlying29 info3 rfl (by decide) (by omega) (.slice Ao40 x5_2.length co40) x5_2 ((rd_T51 ((rd_T49 l1 x7_1).f1) x8_2).f0) [.int .i64 ((rd_T51 ((rd_T49 l1 x7_1).f1) x8_2).f0)] (fun k_ => some k_ ≠ (.slice Ao41 x6_2.length co41 : Value).ownBlock) (fun _ => False) rfl rfl ?aP (fun _ hk => hk.elim) ?aF ?aO ?aB ?aS ?aL ?_; (case aP => exact rfl); (case aB => exact (by repeat (first | (with_reducible first | exact HB.out | apply below_alloc | apply pw_below_drewN | apply below_drew1 | refine below_set ?_ GE242.out | refine below_set ?_ GE248.out) | exact HB.out))); (case aF => exact (fun k_ hk => Kd.fresh' (Kd.R_lt (rr_ HO_6)) k_ hk)); (case aO => exact (rr_ HO_5)); (case aS => exact (below_size (by repeat (first | (with_reducible first | exact HB.out | apply below_alloc | apply pw_below_drewN | apply below_drew1 | refine below_set ?_ GE242.out | refine below_set ?_ GE248.out) | exact HB.out)))); (case aL => have := LMc32.out; omega); intro v253 w42 ho hb hg hat; rw [← Ny252.out] at ho; have n0_ := Aside0.mk (Kd.R_after (ok := (fun _ => True)) (by (with_reducible repeat (first | apply Kd.R_alloc | apply Kd.R_drewN | apply Kd.R_drew)); exact Kd.R_mono HO_6.out (fun _ hk => ⟨trivial, hk⟩)) hg hat); have n1_ := Aside0.mk (blk_grown (g := gb242) (o := .cells #[.slice A0_0 l0_0.length c0_0, .slice A0_1 l0_1.length c0_1] 25 (0, 0)) (kk_ BK242) hg (Kd.R_ne HO_5.out BK242.out (by decide))); have n2_ := Aside0.mk (blk_grown (g := gb248) (o := .cells #[.int .i64 ((rd_T51 ((rd_T49 l1 x7_1).f1) x8_2).f0), .int .i64 ((rd_T51 ((rd_T49 l1 x7_1).f1) x8_2).f1), .int .i64 ((rd_T51 ((rd_T49 l1 x7_1).f1) x8_2).f2)] 51 (0, 0)) (kk_ BK248) hg (Kd.R_ne HO_5.out BK248.out (by decide))); have n3_ := Aside0.mk (hb); have n4_ := Aside0.mk (ho); clear HO_6; clear BK242; clear BK248; clear HB; clear HO_5; have HO_6 := n0_; have BK242 := n1_; have BK248 := n2_; have HB := n3_; have HO254 := n4_; clear n0_ n1_ n2_ n3_ n4_; clear ho hb hg hat; have hcz43_0 : w42.cell? ⟨gb248, 0, none⟩ = some (.int .i64 ((rd_T51 ((rd_T49 l1 x7_1).f1) x8_2).f0)) := (blk_cell BK248.out 0).trans rfl; have hcz43_1 : w42.cell? ⟨gb248, 1, none⟩ = some (.int .i64 ((rd_T51 ((rd_T49 l1 x7_1).f1) x8_2).f1)) := (blk_cell BK248.out 1).trans rfl; have hcz43_2 : w42.cell? ⟨gb248, 2, none⟩ = some (.int .i64 ((rd_T51 ((rd_T49 l1 x7_1).f1) x8_2).f2)) := (blk_cell BK248.out 2).trans rfl; have hfz43_0 := blk_frozen BK248.out 0; have hfz43_1 := blk_frozen BK248.out 1; have hfz43_2 := blk_frozen BK248.out 2) | ((with_reducible refine gate_builtin (b := .append) (xs := #[.tmp 63, .tmp 66]) rfl ?_); at_builtin; refine Kd.R_append (Kd.int .i64) (w0 := w) w.heap.size rfl (.tmp 63) (.tmp 66) 29 3 (.int .i64 0) 8 rfl Try.underlying29 info3 rfl (by decide) (by omega) (.slice Ao41 x6_2.length co41) x6_2 ((rd_T51 ((rd_T49 l1 x7_1).f1) x8_2).f2) [.int .i64 ((rd_T51 ((rd_T49 l1 x7_1).f1) x8_2).f2)] (fun k_ => some k_ ≠ (v253 : Value).ownBlock) (fun _ => False) rfl rfl ?aP (fun _ hk => hk.elim) ?aF ?aO ?aB ?aS ?aL ?_; (case aP => exact rfl); (case aB => exact (by repeat (first | (with_reducible first | exact HB.out | apply below_alloc | apply pw_below_drewN | apply below_drew1 | refine below_set ?_ GE242.out | refine below_set ?_ GE248.out) | exact HB.out))); (case aF => exact (fun k_ hk => Kd.fresh' (Kd.R_lt (rr_ HO254)) k_ hk)); (case aO => exact (by (with_reducible repeat (first | apply Kd.R_alloc | apply Kd.R_drewN | apply Kd.R_drew)); exact Kd.R_mono HO_6.out (fun _ hk => hk.2))); (case aS => exact (below_size (by repeat (first | (with_reducible first | exact HB.out | apply below_alloc | apply pw_below_drewN | apply below_drew1 | refine below_set ?_ GE242.out | refine below_set ?_ GE248.out) | exact HB.out)))); (case aL => have := LMc33.out; omega); intro v256 w44 ho hb hg hat; rw [← Ny255.out] at ho; have n0_ := Aside0.mk (blk_grown (g := gb242) (o := .cells #[.slice A0_0 l0_0.length c0_0, .slice A0_1 l0_1.length c0_1] 25 (0, 0)) (kk_ BK242) hg (Kd.R_ne HO_6.out BK242.out (by decide))); have n1_ := Aside0.mk (blk_grown (g := gb248) (o := .cells #[.int .i64 ((rd_T51 ((rd_T49 l1 x7_1).f1) x8_2).f0), .int .i64 ((rd_T51 ((rd_T49 l1 x7_1).f1) x8_2).f1), .int .i64 ((rd_T51 ((rd_T49 l1 x7_1).f1) x8_2).f2)] 51 (0, 0)) (kk_ BK248) hg (Kd.R_ne HO_6.out BK248.out (by decide))); have n2_ := Aside0.mk (Kd.R_after (ok := (fun _ => True)) (by (with_reducible repeat (first | apply Kd.R_alloc | apply Kd.R_drewN | apply Kd.R_drew)); exact Kd.R_mono HO254.out (fun _ hk => ⟨trivial, hk⟩)) hg hat); have n3_ := Aside0.mk (hb); have n4_ := Aside0.mk (ho); clear BK242; clear BK248; clear HO254; clear HB; clear HO_6; have BK242 := n0_; have BK248 := n1_; have HO254 := n2_; have HB := n3_; have HO257 := n4_; clear n0_ n1_ n2_ n3_ n4_; clear ho hb hg hat))
                go_roundg k2
                case measure => have := HK1.out; have := HK2.out; omega
                case rel => exact ⟨(y252), (y255), (wrap64 (x8_2 + 1)), sd_, H', ⟨by have := HK1.out; have := HK2.out; omega⟩, ⟨by (with_reducible repeat (first | apply Kd.R_alloc | apply Kd.R_drewN | apply Kd.R_drew)); exact Kd.R_mono HO254.out (fun _ hk => hk.2)⟩, ⟨by (with_reducible repeat (first | apply Kd.R_alloc | apply Kd.R_drewN | apply Kd.R_drew)); exact HO257.out⟩, ⟨by (with_reducible repeat (first | refine blk_drewN ?_ _ | refine blk_drew ?_ | refine blk_alloc ?_ _)); exact BK242.out⟩, ⟨by repeat (first | (with_reducible first | exact HB.out | apply below_alloc | apply pw_below_drewN | apply below_drew1 | refine below_set ?_ GE242.out | refine below_set ?_ GE248.out) | exact HB.out)⟩⟩
               ·rw [if_neg c33] at H
                exact absurd H (by simp)
              ·rw [if_neg c32] at H
               exact absurd H (by simp)
           ·replace c12 := Bool.eq_false_iff.mpr c12
            subst c12
            have H1 : (some false) = some r := by rw [if_neg (show ¬ (false = true) by decide)] at H; exact H
            clear H
            have H := H1
            clear H1
            obtain rfl := Option.some.inj H
            have p243 : 0 ≤ (x7_1 : Int) := od_
            have q243 : x7_1 < (l1.length : Int) := od_
            obtain ⟨ad243, A243_1, c243_1, e243, hx243_0, hx243_1, hl243_1, hi243_1⟩ := at_T49 HR1.out x7_1 p243 q243
            cases e243
            replace hx243_0 := (HB.out.cell (World.block_lt_of_cell? w _ hx243_0)).trans hx243_0
            replace hx243_1 := (HB.out.cell (World.block_lt_of_cell? w _ hx243_1)).trans hx243_1
            have HR243_1 := Aside0.mk hi243_1
            have HC243_1 := Aside0.mk hl243_1
            clear hi243_1 hl243_1
            replace p243 := eq_true p243
            replace q243 := eq_true q243
            have p246 : 0 ≤ (x7_1 : Int) := od_
            have q246 : x7_1 < (l1.length : Int) := od_
            obtain ⟨ad246, A246_1, c246_1, e246, hx246_0, hx246_1, hl246_1, hi246_1⟩ := at_T49 HR1.out x7_1 p246 q246
            obtain rfl : ad243 = ad246 := (by injection e246)
            replace hx246_0 := (HB.out.cell (World.block_lt_of_cell? w _ hx246_0)).trans hx246_0
            replace hx246_1 := (HB.out.cell (World.block_lt_of_cell? w _ hx246_1)).trans hx246_1
            have HR246_1 := Aside0.mk hi246_1
            have HC246_1 := Aside0.mk hl246_1
            clear hi246_1 hl246_1
            replace p246 := eq_true p246
            replace q246 := eq_true q246
            have ea_ := Option.some.inj (hx243_1.symm.trans hx246_1)
            injection ea_ with ea_ en_ ec_
            subst ea_
            subst ec_
            clear en_
            have p247 : 0 ≤ (x8_2 : Int) := od_
            have q247 : x8_2 < (((rd_T49 l1 x7_1).f1).length : Int) := od_
            obtain ⟨ad247, e247, hx247_0, hx247_1, hx247_2⟩ := at_T51 HR246_1.out x8_2 p247 q247
            cases e247
            replace hx247_0 := (HB.out.cell (World.block_lt_of_cell? w _ hx247_0)).trans hx247_0
            replace hx247_1 := (HB.out.cell (World.block_lt_of_cell? w _ hx247_1)).trans hx247_1
            replace hx247_2 := (HB.out.cell (World.block_lt_of_cell? w _ hx247_2)).trans hx247_2
            replace p247 := eq_true p247
            replace q247 := eq_true q247
            go_wp2_with (first | ((with_reducible refine gate_dst (N := 9) rfl ?_); refine box_event ?hg (N := 9) ?hd (cs := #[.int .i64 0, .int .i64 0, .int .i64 0]) (t := 51) ?hr ?_; (case hd => rfl); (case hg => rfl); (case hr => first | (go_simp; done) | (go_simp; rfl)); intro gb248 hg w45 hbox hb; have n0_ := Aside0.mk (Kd.R_below (rr_ HO_5) hb); have n1_ := Aside0.mk (Kd.R_below (rr_ HO_6) hb); have n2_ := Aside0.mk (blk_below (g := gb242) (o := .cells #[.slice A0_0 l0_0.length c0_0, .slice A0_1 l0_1.length c0_1] 25 (0, 0)) (kk_ BK242) hb); have n3_ := Aside0.mk (below_step (bs_ HB GE242.out) hb); have n4_ := Aside0.mk (hbox); have n5_ := Aside0.mk ((by rw [hg]; exact (below_size (bs_ HB GE242.out)) : w.heap.size ≤ gb248)); have n6_ := Aside0.mk ((by rw [hg]; exact (below_size (bs_ HB GE242.out)) : w.heap.size ≤ gb248)); have n7_ := Aside0.mk ((by rw [hg]; exact Nat.ne_of_lt (blk_lt (g := gb242) (o := .cells #[.slice A0_0 l0_0.length c0_0, .slice A0_1 l0_1.length c0_1] 25 (0, 0)) (kk_ BK242)) : gb242 ≠ gb248)); have n8_ := Aside0.mk ((by rw [hg]; exact Nat.ne_of_gt (blk_lt (g := gb242) (o := .cells #[.slice A0_0 l0_0.length c0_0, .slice A0_1 l0_1.length c0_1] 25 (0, 0)) (kk_ BK242)) : gb248 ≠ gb242)); clear HO_5; clear HO_6; clear BK242; clear HB; have HO_5 := n0_; have HO_6 := n1_; have BK242 := n2_; have HB := n3_; have BK248 := n4_; have GW248 := n5_; have GE248 := n6_; have NB242_248 := n7_; have NB248_242 := n8_; clear n0_ n1_ n2_ n3_ n4_ n5_ n6_ n7_ n8_; clear hb hbox hg; have hnb46 := NB248_242.out; have hnc46 := NB242_248.out; have hcz47_0 : w45.cell? ⟨gb248, 0, none⟩ = some (.int .i64 0) := (blk_cell BK248.out 0).trans rfl; have hcz47_1 : w45.cell? ⟨gb248, 1, none⟩ = some (.int .i64 0) := (blk_cell BK248.out 1).trans rfl; have hcz47_2 : w45.cell? ⟨gb248, 2, none⟩ = some (.int .i64 0) := (blk_cell BK248.out 2).trans rfl; have hfz47_0 := blk_frozen BK248.out 0; have hfz47_1 := blk_frozen BK248.out 1; have hfz47_2 := blk_frozen BK248.out 2; have hcz48_0 : w45.cell? ⟨gb242, 0, none⟩ = some (.slice A0_0 l0_0.length c0_0) := (blk_cell BK242.out 0).trans rfl; have hcz48_1 : w45.cell? ⟨gb242, 1, none⟩ = some (.slice A0_1 l0_1.length c0_1) := (blk_cell BK242.out 1).trans rfl; have hfz48_0 := blk_frozen BK242.out 0; have hfz48_1 := blk_frozen BK242.out 1) | ((with_reducible refine gate_callee (f := 41) rfl ?_); refine gl_ (some 41) Try.func41 #[.agg #[.slice A0_0 l0_0.length c0_0, .slice A0_1 l0_1.length c0_1], .agg #[.int .i64 ((rd_T51 ((rd_T49 l1 x7_1).f1) x8_2).f0), .int .i64 ((rd_T51 ((rd_T49 l1 x7_1).f1) x8_2).f1), .int .i64 ((rd_T51 ((rd_T49 l1 x7_1).f1) x8_2).f2)]] ?_; (with_reducible refine (cohousingref26_move.calls k2 _ _ l0_0 _ _ l0_1 ((rd_T51 ((rd_T49 l1 x7_1).f1) x8_2).f0) ((rd_T51 ((rd_T49 l1 x7_1).f1) x8_2).f1) ((rd_T51 ((rd_T49 l1 x7_1).f1) x8_2).f2) false _ ?side1 ?side2 ?side3 ?side4 A11.out).mono ?_); (case side1 => exact Kd.C_below HR0_0.out (by repeat (first | (with_reducible first | exact HB.out | apply below_alloc | apply pw_below_drewN | apply below_drew1 | refine below_set ?_ GE242.out | refine below_set ?_ GE248.out) | exact HB.out))); (case side2 => exact HC0_0.out); (case side3 => exact Kd.C_below HR0_1.out (by repeat (first | (with_reducible first | exact HB.out | apply below_alloc | apply pw_below_drewN | apply below_drew1 | refine below_set ?_ GE242.out | refine below_set ?_ GE248.out) | exact HB.out))); (case side4 => exact HC0_1.out); rintro e w49 ⟨rfl, hb⟩; refine ⟨_, rfl, ?_⟩; have n0_ := Aside0.mk (Kd.R_below (by (with_reducible repeat (first | apply Kd.R_alloc | apply Kd.R_drewN | apply Kd.R_drew)); exact (Kd.R_mono (Kd.R_far (p := ⟨gb248, 2, none⟩) (Kd.R_far (p := ⟨gb248, 1, none⟩) (Kd.R_far (p := ⟨gb248, 0, none⟩) (Kd.R_types HO_5.out BK248.out (by decide)) (fun _ hk => hk.2) (.int .i64 ((rd_T51 ((rd_T49 l1 x7_1).f1) x8_2).f0))) (fun _ hk => hk.2) (.int .i64 ((rd_T51 ((rd_T49 l1 x7_1).f1) x8_2).f1))) (fun _ hk => hk.2) (.int .i64 ((rd_T51 ((rd_T49 l1 x7_1).f1) x8_2).f2))) (fun _ h_ => h_.1))) hb); have n1_ := Aside0.mk (Kd.R_below (by (with_reducible repeat (first | apply Kd.R_alloc | apply Kd.R_drewN | apply Kd.R_drew)); exact (Kd.R_mono (Kd.R_far (p := ⟨gb248, 2, none⟩) (Kd.R_far (p := ⟨gb248, 1, none⟩) (Kd.R_far (p := ⟨gb248, 0, none⟩) (Kd.R_types HO_6.out BK248.out (by decide)) (fun _ hk => hk.2) (.int .i64 ((rd_T51 ((rd_T49 l1 x7_1).f1) x8_2).f0))) (fun _ hk => hk.2) (.int .i64 ((rd_T51 ((rd_T49 l1 x7_1).f1) x8_2).f1))) (fun _ hk => hk.2) (.int .i64 ((rd_T51 ((rd_T49 l1 x7_1).f1) x8_2).f2))) (fun _ h_ => h_.1))) hb); have n2_ := Aside0.mk (blk_below (g := gb242) (o := .cells #[.slice A0_0 l0_0.length c0_0, .slice A0_1 l0_1.length c0_1] 25 (0, 0)) (by (with_reducible repeat (first | refine blk_drewN ?_ _ | refine blk_drew ?_ | refine blk_alloc ?_ _)); refine blk_far ?_ NB242_248.out _; (with_reducible repeat (first | refine blk_drewN ?_ _ | refine blk_drew ?_ | refine blk_alloc ?_ _)); refine blk_far ?_ NB242_248.out _; (with_reducible repeat (first | refine blk_drewN ?_ _ | refine blk_drew ?_ | refine blk_alloc ?_ _)); refine blk_far ?_ NB242_248.out _; (with_reducible repeat (first | refine blk_drewN ?_ _ | refine blk_drew ?_ | refine blk_alloc ?_ _)); exact BK242.out) hb); have n3_ := Aside0.mk (blk_below (g := gb248) (o := .cells #[.int .i64 ((rd_T51 ((rd_T49 l1 x7_1).f1) x8_2).f0), .int .i64 ((rd_T51 ((rd_T49 l1 x7_1).f1) x8_2).f1), .int .i64 ((rd_T51 ((rd_T49 l1 x7_1).f1) x8_2).f2)] 51 (0, 0)) (by (with_reducible repeat (first | refine blk_drewN ?_ _ | refine blk_drew ?_ | refine blk_alloc ?_ _)); refine blk_put (cs := #[.int .i64 ((rd_T51 ((rd_T49 l1 x7_1).f1) x8_2).f0), .int .i64 ((rd_T51 ((rd_T49 l1 x7_1).f1) x8_2).f1), .int .i64 0]) ?_ 2 _ rfl; (with_reducible repeat (first | refine blk_drewN ?_ _ | refine blk_drew ?_ | refine blk_alloc ?_ _)); refine blk_put (cs := #[.int .i64 ((rd_T51 ((rd_T49 l1 x7_1).f1) x8_2).f0), .int .i64 0, .int .i64 0]) ?_ 1 _ rfl; (with_reducible repeat (first | refine blk_drewN ?_ _ | refine blk_drew ?_ | refine blk_alloc ?_ _)); refine blk_put (cs := #[.int .i64 0, .int .i64 0, .int .i64 0]) ?_ 0 _ rfl; (with_reducible repeat (first | refine blk_drewN ?_ _ | refine blk_drew ?_ | refine blk_alloc ?_ _)); exact BK248.out) hb); have n4_ := Aside0.mk (below_step (by repeat (first | (with_reducible first | exact HB.out | apply below_alloc | apply pw_below_drewN | apply below_drew1 | refine below_set ?_ GE242.out | refine below_set ?_ GE248.out) | exact HB.out)) hb); clear HO_5; clear HO_6; clear BK242; clear BK248; clear HB; have HO_5 := n0_; have HO_6 := n1_; have BK242 := n2_; have BK248 := n3_; have HB := n4_; clear n0_ n1_ n2_ n3_ n4_; (try clear hb); (try clear hb2); (try clear hk); (try clear hi)))
            go_ret
            exact ⟨ew_, by repeat (first | (with_reducible first | exact HB.out | apply below_alloc | apply pw_below_drewN | apply below_drew1 | refine below_set ?_ GE242.out | refine below_set ?_ GE248.out) | exact HB.out)⟩
          ·rw [if_neg c10] at H
           exact absurd H (by simp)
         ·rw [if_neg c9] at H
          have c9b0 : decide (x8_2 < (((rd_T49 l1 x7_1).f1).length : Int)) = false := decide_eq_false c9
          clear c9
          replace H := Option.bind_eq_some_iff.mp H
          obtain ⟨t245, A500, H⟩ := H
          replace H : (if t245 = true then (cohousingref26_Rings.l0 k2 l1 x5_2 x6_2 (wrap64 (x7_1 + 1)) l0_0 l0_1) else (some false)) = some r := H
          have A50 := Aside0.mk A500
          clear A500
          by_cases c51 : t245 = true
          ·subst c51
           have H1 : (cohousingref26_Rings.l0 k2 l1 x5_2 x6_2 (wrap64 (x7_1 + 1)) l0_0 l0_1) = some r := by rw [if_pos rfl] at H; exact H
           clear H
           have H := H1
           clear H1
           have H' := Aside0.mk H
           clear H
           have p243 : 0 ≤ (x7_1 : Int) := od_
           have q243 : x7_1 < (l1.length : Int) := od_
           obtain ⟨ad243, A243_1, c243_1, e243, hx243_0, hx243_1, hl243_1, hi243_1⟩ := at_T49 HR1.out x7_1 p243 q243
           cases e243
           replace hx243_0 := (HB.out.cell (World.block_lt_of_cell? w _ hx243_0)).trans hx243_0
           replace hx243_1 := (HB.out.cell (World.block_lt_of_cell? w _ hx243_1)).trans hx243_1
           have HR243_1 := Aside0.mk hi243_1
           have HC243_1 := Aside0.mk hl243_1
           clear hi243_1 hl243_1
           replace p243 := eq_true p243
           replace q243 := eq_true q243
           try go_wp2
           have n0_ := Aside0.mk (Kd.R_drew HO_5.out)
           have n1_ := Aside0.mk (Kd.R_drew HO_6.out)
           have n2_ := Aside0.mk (blk_drew BK242.out)
           have n3_ := Aside0.mk (below_drew1 HB.out)
           clear HO_5
           clear HO_6
           clear BK242
           clear HB
           have HO_5 := n0_
           have HO_6 := n1_
           have BK242 := n2_
           have HB := n3_
           clear n0_ n1_ n2_ n3_
           have p244 : 0 ≤ (x7_1 : Int) := od_
           have q244 : x7_1 < (l1.length : Int) := od_
           obtain ⟨ad244, A244_1, c244_1, e244, hx244_0, hx244_1, hl244_1, hi244_1⟩ := at_T49 HR1.out x7_1 p244 q244
           have hw244_1 := hx244_1
           have hw244_0 := hx244_0
           obtain rfl : ad243 = ad244 := (by injection e244)
           replace hx244_0 := (HB.out.cell (World.block_lt_of_cell? w _ hx244_0)).trans hx244_0
           replace hx244_1 := (HB.out.cell (World.block_lt_of_cell? w _ hx244_1)).trans hx244_1
           have HR244_1 := Aside0.mk hi244_1
           have HC244_1 := Aside0.mk hl244_1
           clear hi244_1 hl244_1
           replace p244 := eq_true p244
           replace q244 := eq_true q244
           refine start_ (n := 7) (S := fun w' => w'.cell? ⟨gb242, 0, none⟩ = some (.slice A0_0 l0_0.length c0_0) ∧ w'.cell? ⟨gb242, 1, none⟩ = some (.slice A0_1 l0_1.length c0_1) ∧ w'.cell? (ad243.add ((x7_1).toNat * 2)) = some (.bool ((rd_T49 l1 x7_1).f0)) ∧ w'.cell? ⟨(ad243.add ((x7_1).toNat * 2)).block, (ad243.add ((x7_1).toNat * 2)).off + 1, none⟩ = some (.slice A244_1 ((rd_T49 l1 x7_1).f1).length c244_1)) (ds := []) #[n_, n_, n_, n_, n_, n_, n_] (by kernel_rfl) rfl rfl ⟨(blk_cell BK242.out 0).trans rfl, (blk_cell BK242.out 1).trans rfl, ((HB.out.cell (World.block_lt_of_cell? w _ hw244_0)).trans hw244_0), ((HB.out.cell (World.block_lt_of_cell? w _ hw244_1)).trans hw244_1)⟩ (fun hHeld => ?_)
           generalize wr.drew = w52 at HO_5 HO_6 BK242 HB HR244_1 hx244_0 hx244_1 hHeld ⊢
           refine pv_ 1 69 (w_ 7 2) rfl ?_
           refine pv_ 2 70 (w_ 7 6) rfl ?_
           refine pv_ 3 71 (w_ 7 14) rfl ?_
           refine tb_ 0 68 (w_ 7 15) rfl hHeld (by rintro w' ⟨s0, s1, s2, s3⟩; go_simp; with_reducible rfl) ?_
           refine tb_ 4 72 (w_ 7 31) rfl hHeld (by rintro w' ⟨s0, s1, s2, s3⟩; go_simp; with_reducible rfl) ?_
           refine one_ (i := 5) (N := some 73) (w_ 7 63) rfl rfl (by kernel_rfl) (by decide) (fun K hK => ?_)
           refine goes_ Try.func47 (by kernel_rfl) rfl #[.agg #[.slice A0_0 l0_0.length c0_0, .slice A0_1 l0_1.length c0_1], .agg #[.bool ((rd_T49 l1 x7_1).f0), .slice A244_1 ((rd_T49 l1 x7_1).f1).length c244_1]] (by rfl) rfl rfl (by (try simp only [List.map_toArray, List.map_cons, List.map_nil]); first | done | rfl | (simp only [List.length_drop, List.length_take]; rfl)) ?_
           with_reducible refine (cohousingref26_shape.calls k2 _ _ l0_0 _ _ l0_1 ((rd_T49 l1 x7_1).f0) _ _ ((rd_T49 l1 x7_1).f1) true _ ?side1 ?side2 ?side3 ?side4 ?side5 ?side6 A50.out).mono ?_
           (case side1 => exact cc_ ((Kd.C_below HR0_0.out HB.out)))
           (case side2 => exact HC0_0.out)
           (case side3 => exact cc_ ((Kd.C_below HR0_1.out HB.out)))
           (case side4 => exact HC0_1.out)
           (case side5 => exact cc_ ((Kd.C_below HR244_1.out HB.out)))
           (case side6 => exact HC244_1.out)
           rintro e w53 ⟨rfl, hb⟩
           refine ⟨_, rfl, ?_⟩
           have n0_ := Aside0.mk (Kd.R_below (rr_ HO_5) hb)
           have n1_ := Aside0.mk (Kd.R_below (rr_ HO_6) hb)
           have n2_ := Aside0.mk (blk_below (g := gb242) (o := .cells #[.slice A0_0 l0_0.length c0_0, .slice A0_1 l0_1.length c0_1] 25 (0, 0)) (kk_ BK242) hb)
           have n3_ := Aside0.mk (below_step (bs_ HB GE242.out) hb)
           clear HO_5
           clear HO_6
           clear BK242
           clear HB
           have HO_5 := n0_
           have HO_6 := n1_
           have BK242 := n2_
           have HB := n3_
           clear n0_ n1_ n2_ n3_
           (try clear hb)
           (try clear hb2)
           (try clear hk)
           (try clear hi)
           refine hK.out _ _ ⟨(blk_cell BK242.out 0).trans rfl, (blk_cell BK242.out 1).trans rfl, ((HB.out.cell (World.block_lt_of_cell? w _ hw244_0)).trans hw244_0), ((HB.out.cell (World.block_lt_of_cell? w _ hw244_1)).trans hw244_1)⟩ (fun hHeld => ?_)
           clear hK K
           refine norm_ (a' := ?_) ?_ ?_
           rotate_left
           ·show Act.put _ (some 73) _ = _
            simp only [Act.put, sI_, s0_, sS_, i64_w, i32_w]
            rfl
           refine pv_ 6 11 (w_ 7 127) rfl ?_
           refine done_ (by kernel_rfl) ?_
           try go_wp2
           go_roundg k2
           case measure => have := HK1.out; have := HK2.out; omega
           case rel => exact ⟨(x5_2), (x6_2), (wrap64 (x7_1 + 1)), sd_, H', ⟨by have := HK1.out; have := HK2.out; omega⟩, ⟨by (with_reducible repeat (first | apply Kd.R_alloc | apply Kd.R_drewN | apply Kd.R_drew)); exact HO_5.out⟩, ⟨by (with_reducible repeat (first | apply Kd.R_alloc | apply Kd.R_drewN | apply Kd.R_drew)); exact HO_6.out⟩, ⟨by (with_reducible repeat (first | refine blk_drewN ?_ _ | refine blk_drew ?_ | refine blk_alloc ?_ _)); exact BK242.out⟩, ⟨by repeat (first | (with_reducible first | exact HB.out | apply below_alloc | apply pw_below_drewN | apply below_drew1 | refine below_set ?_ GE242.out) | exact HB.out)⟩⟩
          ·replace c51 := Bool.eq_false_iff.mpr c51
           subst c51
           have H1 : (some false) = some r := by rw [if_neg (show ¬ (false = true) by decide)] at H; exact H
           clear H
           have H := H1
           clear H1
           obtain rfl := Option.some.inj H
           have p243 : 0 ≤ (x7_1 : Int) := od_
           have q243 : x7_1 < (l1.length : Int) := od_
           obtain ⟨ad243, A243_1, c243_1, e243, hx243_0, hx243_1, hl243_1, hi243_1⟩ := at_T49 HR1.out x7_1 p243 q243
           cases e243
           replace hx243_0 := (HB.out.cell (World.block_lt_of_cell? w _ hx243_0)).trans hx243_0
           replace hx243_1 := (HB.out.cell (World.block_lt_of_cell? w _ hx243_1)).trans hx243_1
           have HR243_1 := Aside0.mk hi243_1
           have HC243_1 := Aside0.mk hl243_1
           clear hi243_1 hl243_1
           replace p243 := eq_true p243
           replace q243 := eq_true q243
           try go_wp2
           have n0_ := Aside0.mk (Kd.R_drew HO_5.out)
           have n1_ := Aside0.mk (Kd.R_drew HO_6.out)
           have n2_ := Aside0.mk (blk_drew BK242.out)
           have n3_ := Aside0.mk (below_drew1 HB.out)
           clear HO_5
           clear HO_6
           clear BK242
           clear HB
           have HO_5 := n0_
           have HO_6 := n1_
           have BK242 := n2_
           have HB := n3_
           clear n0_ n1_ n2_ n3_
           have p244 : 0 ≤ (x7_1 : Int) := od_
           have q244 : x7_1 < (l1.length : Int) := od_
           obtain ⟨ad244, A244_1, c244_1, e244, hx244_0, hx244_1, hl244_1, hi244_1⟩ := at_T49 HR1.out x7_1 p244 q244
           have hw244_1 := hx244_1
           have hw244_0 := hx244_0
           obtain rfl : ad243 = ad244 := (by injection e244)
           replace hx244_0 := (HB.out.cell (World.block_lt_of_cell? w _ hx244_0)).trans hx244_0
           replace hx244_1 := (HB.out.cell (World.block_lt_of_cell? w _ hx244_1)).trans hx244_1
           have HR244_1 := Aside0.mk hi244_1
           have HC244_1 := Aside0.mk hl244_1
           clear hi244_1 hl244_1
           replace p244 := eq_true p244
           replace q244 := eq_true q244
           refine start_ (n := 7) (S := fun w' => w'.cell? ⟨gb242, 0, none⟩ = some (.slice A0_0 l0_0.length c0_0) ∧ w'.cell? ⟨gb242, 1, none⟩ = some (.slice A0_1 l0_1.length c0_1) ∧ w'.cell? (ad243.add ((x7_1).toNat * 2)) = some (.bool ((rd_T49 l1 x7_1).f0)) ∧ w'.cell? ⟨(ad243.add ((x7_1).toNat * 2)).block, (ad243.add ((x7_1).toNat * 2)).off + 1, none⟩ = some (.slice A244_1 ((rd_T49 l1 x7_1).f1).length c244_1)) (ds := []) #[n_, n_, n_, n_, n_, n_, n_] (by kernel_rfl) rfl rfl ⟨(blk_cell BK242.out 0).trans rfl, (blk_cell BK242.out 1).trans rfl, ((HB.out.cell (World.block_lt_of_cell? w _ hw244_0)).trans hw244_0), ((HB.out.cell (World.block_lt_of_cell? w _ hw244_1)).trans hw244_1)⟩ (fun hHeld => ?_)
           generalize wr.drew = w54 at HO_5 HO_6 BK242 HB HR244_1 hx244_0 hx244_1 hHeld ⊢
           refine pv_ 1 69 (w_ 7 2) rfl ?_
           refine pv_ 2 70 (w_ 7 6) rfl ?_
           refine pv_ 3 71 (w_ 7 14) rfl ?_
           refine tb_ 0 68 (w_ 7 15) rfl hHeld (by rintro w' ⟨s0, s1, s2, s3⟩; go_simp; with_reducible rfl) ?_
           refine tb_ 4 72 (w_ 7 31) rfl hHeld (by rintro w' ⟨s0, s1, s2, s3⟩; go_simp; with_reducible rfl) ?_
           refine one_ (i := 5) (N := some 73) (w_ 7 63) rfl rfl (by kernel_rfl) (by decide) (fun K hK => ?_)
           refine goes_ Try.func47 (by kernel_rfl) rfl #[.agg #[.slice A0_0 l0_0.length c0_0, .slice A0_1 l0_1.length c0_1], .agg #[.bool ((rd_T49 l1 x7_1).f0), .slice A244_1 ((rd_T49 l1 x7_1).f1).length c244_1]] (by rfl) rfl rfl (by (try simp only [List.map_toArray, List.map_cons, List.map_nil]); first | done | rfl | (simp only [List.length_drop, List.length_take]; rfl)) ?_
           with_reducible refine (cohousingref26_shape.calls k2 _ _ l0_0 _ _ l0_1 ((rd_T49 l1 x7_1).f0) _ _ ((rd_T49 l1 x7_1).f1) false _ ?side1 ?side2 ?side3 ?side4 ?side5 ?side6 A50.out).mono ?_
           (case side1 => exact cc_ ((Kd.C_below HR0_0.out HB.out)))
           (case side2 => exact HC0_0.out)
           (case side3 => exact cc_ ((Kd.C_below HR0_1.out HB.out)))
           (case side4 => exact HC0_1.out)
           (case side5 => exact cc_ ((Kd.C_below HR244_1.out HB.out)))
           (case side6 => exact HC244_1.out)
           rintro e w55 ⟨rfl, hb⟩
           refine ⟨_, rfl, ?_⟩
           have n0_ := Aside0.mk (Kd.R_below (rr_ HO_5) hb)
           have n1_ := Aside0.mk (Kd.R_below (rr_ HO_6) hb)
           have n2_ := Aside0.mk (blk_below (g := gb242) (o := .cells #[.slice A0_0 l0_0.length c0_0, .slice A0_1 l0_1.length c0_1] 25 (0, 0)) (kk_ BK242) hb)
           have n3_ := Aside0.mk (below_step (bs_ HB GE242.out) hb)
           clear HO_5
           clear HO_6
           clear BK242
           clear HB
           have HO_5 := n0_
           have HO_6 := n1_
           have BK242 := n2_
           have HB := n3_
           clear n0_ n1_ n2_ n3_
           (try clear hb)
           (try clear hb2)
           (try clear hk)
           (try clear hi)
           refine hK.out _ _ ⟨(blk_cell BK242.out 0).trans rfl, (blk_cell BK242.out 1).trans rfl, ((HB.out.cell (World.block_lt_of_cell? w _ hw244_0)).trans hw244_0), ((HB.out.cell (World.block_lt_of_cell? w _ hw244_1)).trans hw244_1)⟩ (fun hHeld => ?_)
           clear hK K
           refine norm_ (a' := ?_) ?_ ?_
           rotate_left
           ·show Act.put _ (some 73) _ = _
            simp only [Act.put, sI_, s0_, sS_, i64_w, i32_w]
            rfl
           refine pv_ 6 11 (w_ 7 127) rfl ?_
           refine done_ (by kernel_rfl) ?_
           try go_wp2
           go_ret
           exact ⟨ew_, by repeat (first | (with_reducible first | exact HB.out | apply below_alloc | apply pw_below_drewN | apply below_drew1 | refine below_set ?_ GE242.out) | exact HB.out)⟩
        ·rw [if_neg c8] at H
         exact absurd H (by simp)
       ·rw [if_neg c7] at H
        exact absurd H (by simp)
    ·rw [if_neg c6] at H
     have c6b0 : decide (x7_1 < (l1.length : Int)) = false := decide_eq_false c6
     clear c6
     obtain rfl := Option.some.inj H
     go_wp2
     go_ret
     exact ⟨ew_, by repeat (first | (with_reducible first | exact HB.out | apply below_alloc | apply pw_below_drewN | apply below_drew1 | refine below_set ?_ GE242.out) | exact HB.out)⟩
end
end Go.Proofs.Ytocbiggglnpeoaa.P
end
