/- Part 7 of the base that the seat's proofs share: words, walks and plain laws. -/
import Derived.ArgAppend
import Derived.Below
import Derived.BigQuiet
import Derived.ChangeOld
import Derived.ChangeSlices
import Derived.Deep.AppendLies
import Derived.Deep.CutBlock
import Derived.Deep.DeepCutAuto
import Derived.Deep.Draws
import Derived.Deep.LoopGhost
import Derived.Deep.OwnRows
import Derived.Deep.QuietTactic
import Derived.Deep.RegionHeld3
import Derived.Deep.Slices
import Derived.KernelRfl
import Derived.Laws.BitsLemmas
import Derived.Laws.BytesArg
import Derived.Laws.IdiomCopy
import Derived.Laws.MakeOwn
import Derived.Laws.OwnMore
import Derived.Laws.Rows
import Derived.Laws.Slices
import Derived.Laws.StructEq
import Derived.Lib.AppendStr
import Derived.Lib.BufferOwn
import Derived.Lib.ConvBytes
import Derived.Lib.SliceRun
import Derived.LoopIn
import Derived.LoopNIn
import Derived.Maps.AppendAt
import Derived.Maps.Own
import Derived.OpenShut
import Derived.OrdersHeld
import Derived.OwnWalk
import Derived.OwnWalkIn
import Derived.ProofKit
import Derived.RangeFuncBound
import Derived.RangeFuncCalls
import Derived.RangeFuncLeaves
import Derived.RangeFuncNested
import Derived.RowKit
import Derived.RowKit3
import Derived.ShutString
import Derived.SizedLaws
import Derived.Tactics
import Derived.TacticsInMore
import Derived.Test.YtocbiggglnpeoaaProg
import Derived.WalkKit
import Derived.WideLaws
import Derived.Test.YtocbiggglnpeoaaCRf
set_option linter.unusedVariables false
set_option linter.unusedSimpArgs false
section
namespace Go.Proofs.Ytocbiggglnpeoaa.P
open Go.RowKit Go.Proofs.YtocbiggglnpeoaaW.PrintWords Go.Proofs.YtocbiggglnpeoaaW.PrintLast Go.Proofs.YtocbiggglnpeoaaW.PrintMore
attribute [local go_sem] max2_int min2_int max_two min_two max_three min_three max_four min_four
set_option linter.unusedVariables false
set_option linter.unusedSimpArgs false
set_option maxHeartbeats 8000000
set_option maxRecDepth 100000
section
mutual
def cohousingref23_Few.j0 : Nat → Bool → List (S84) → List (S46) → Option (Bool)
 | 0, _, _, _ => none
 | k + 1, x13, x197000, x197001 => if x13 = true then (some false) else (cohousingref23_Few.l0 k 0 x197000 x197001)
def cohousingref23_Few.l0 : Nat → Int → List (S84) → List (S46) → Option (Bool)
 | 0, _, _, _ => none
 | k + 1, x3, x197000, x197001 => if x3 < (x197001.length : Int) then (if 0 ≤ x3 then (if (((rd_T46 x197001 x3).f2).length : Int) > 30 then (some false) else (cohousingref23_Few.l0 k (wrap64 (x3 + 1)) x197000 x197001)) else (none)) else (some true)
end
def cohousingref23_Few.f (k : Nat) (l0_0 : List (S84)) (l0_1 : List (S46)) : Option (Bool) := if (l0_0.length : Int) > 20 then (cohousingref23_Few.j0 k true l0_0 l0_1) else (cohousingref23_Few.j0 k (decide ((l0_1.length : Int) > 20)) l0_0 l0_1)
theorem cohousingref23_Few.calls (k : Nat) (A0_0 : Option Addr) (c0_0 : Nat) (l0_0 : List (S84)) (A0_1 : Option Addr) (c0_1 : Nat) (l0_1 : List (S46)) (r : Bool) (w : World) (hr0_0 : Kd.C k84 w A0_0 l0_0.length l0_0) (hc0_0 : l0_0.length ≤ c0_0) (hr0_1 : Kd.C k46 w A0_1 l0_1.length l0_1) (hc0_1 : l0_1.length ≤ c0_1) (h : cohousingref23_Few.f k l0_0 l0_1 = some r) :
  Calls Try.prog 11 #[.agg #[.slice A0_0 l0_0.length c0_0, .slice A0_1 l0_1.length c0_1]] w fun e w' => e = .returned (.bool r) ∧ Below w.heap.size w w' := by
 have hu25 := Try.underlying25
 have HR0_0 := Aside0.mk hr0_0
 have HC0_0 := Aside0.mk hc0_0
 clear hr0_0 hc0_0
 have HR0_1 := Aside0.mk hr0_1
 have HC0_1 := Aside0.mk hc0_1
 clear hr0_1 hc0_1
 have HB := Aside0.mk (Below.refl w.heap.size w)
 have H : (if (l0_0.length : Int) > 20 then (cohousingref23_Few.j0 k true l0_0 l0_1) else (cohousingref23_Few.j0 k (decide ((l0_1.length : Int) > 20)) l0_0 l0_1)) = some r := h
 clear h
 have HC2 := Aside0.mk H
 clear H
 go_enter Try.func11, Try.ntmps11
 go_upto_region 1 with (first | ((with_reducible refine gate_dst (N := 1) rfl ?_); (try (refine gate_guard (by rfl) ?_; dsimp only)); refine box_event ?hg (N := 1) ?hd (cs := #[.slice A0_0 l0_0.length c0_0, .slice A0_1 l0_1.length c0_1]) (t := 25) ?hr ?_; (case hd => rfl); (case hg => rfl); (case hr => first | (go_simp; done) | (go_simp; rfl)); intro gb196 hg w3 hbox hb; have n0_ := Aside0.mk (below_step (bb_ HB) hb); have n1_ := Aside0.mk (hbox); have n2_ := Aside0.mk ((by rw [hg]; exact (below_size (bb_ HB)) : w.heap.size ≤ gb196)); have n3_ := Aside0.mk ((by rw [hg]; exact (below_size (bb_ HB)) : w.heap.size ≤ gb196)); clear HB; have HB := n0_; have BK196 := n1_; have GW196 := n2_; have GE196 := n3_; clear n0_ n1_ n2_ n3_; clear hb hbox hg))
 (try simp only [Act.put, sI_, s0_, sS_])
 go_cut [13] (fun v13 wc => ∃ (kq : Nat) (x13_1 : Bool), v13 = .bool x13_1 ∧ Aside0 (cohousingref23_Few.j0 kq x13_1 l0_0 l0_1 = some r) ∧ Aside0 (kq ≤ k) ∧ Aside0 (wc.heap[gb196]? = some (.cells #[(.slice A0_0 l0_0.length c0_0), (.slice A0_1 l0_1.length c0_1)] 25 (0, 0))) ∧ Aside0 (Below w.heap.size w wc))
 case first =>
  have H := HC2.out
  clear HC2
  by_cases c4 : (l0_0.length : Int) > 20
  ·rw [if_pos c4] at H
   have c4b0 : decide (20 < (l0_0.length : Int)) = true := decide_eq_true c4
   have c4b1 : decide (20 < l0_0.length) = true := decide_eq_true (by omega)
   clear c4
   (first | rw [c4b0] | (simp only [i64_w, i32_w]; rw [c4b0]) | skip)
   have H' := Aside0.mk H
   clear H
   have hcz5_0 : w3.cell? ⟨gb196, 0, none⟩ = some (.slice A0_0 l0_0.length c0_0) := (blk_cell BK196.out 0).trans rfl
   have hcz5_1 : w3.cell? ⟨gb196, 1, none⟩ = some (.slice A0_1 l0_1.length c0_1) := (blk_cell BK196.out 1).trans rfl
   have hfz5_0 := blk_frozen BK196.out 0
   have hfz5_1 := blk_frozen BK196.out 1
   go_wp2
   go_meet
   case rel => exact ⟨_, (true), sd_, H', ⟨by first | omega | exact Nat.le_refl _⟩, ⟨by (with_reducible repeat (first | refine blk_drewN ?_ _ | refine blk_drew ?_ | refine blk_alloc ?_ _)); exact BK196.out⟩, ⟨by repeat (first | (with_reducible first | exact HB.out | apply below_alloc | apply pw_below_drewN | apply below_drew1 | refine below_set ?_ GE196.out) | exact HB.out)⟩⟩
  ·rw [if_neg c4] at H
   have c4b0 : decide (20 < (l0_0.length : Int)) = false := decide_eq_false c4
   have c4b1 : decide (20 < l0_0.length) = false := decide_eq_false (by omega)
   clear c4
   (first | rw [c4b0] | (simp only [i64_w, i32_w]; rw [c4b0]) | skip)
   have H' := Aside0.mk H
   clear H
   have hcz6_0 : w3.cell? ⟨gb196, 0, none⟩ = some (.slice A0_0 l0_0.length c0_0) := (blk_cell BK196.out 0).trans rfl
   have hcz6_1 : w3.cell? ⟨gb196, 1, none⟩ = some (.slice A0_1 l0_1.length c0_1) := (blk_cell BK196.out 1).trans rfl
   have hfz6_0 := blk_frozen BK196.out 0
   have hfz6_1 := blk_frozen BK196.out 1
   go_wp2
   go_meet
   case rel => exact ⟨_, (decide ((l0_1.length : Int) > 20)), sd_, H', ⟨by first | omega | exact Nat.le_refl _⟩, ⟨by (with_reducible repeat (first | refine blk_drewN ?_ _ | refine blk_drew ?_ | refine blk_alloc ?_ _)); exact BK196.out⟩, ⟨by repeat (first | (with_reducible first | exact HB.out | apply below_alloc | apply pw_below_drewN | apply below_drew1 | refine below_set ?_ GE196.out) | exact HB.out)⟩⟩
 case rest =>
  clear HC2
  try clear c1
  try clear p2
  try clear c4
  try clear c4b0
  try clear c4b1
  try clear hcz5_0
  try clear hcz5_1
  try clear hcz6_0
  try clear hcz6_1
  try clear hfz5_0
  try clear hfz5_1
  try clear hfz6_0
  try clear hfz6_1
  obtain ⟨kq, x13_1, rfl, HA, HJ1, BK196, HB⟩ := hcut
  cases kq with
  | zero => exact absurd HA.out (by simp [cohousingref23_Few.j0])
  | succ kj1 =>
   have H := HA.out
   clear HA
   simp only [cohousingref23_Few.j0] at H
   by_cases c7 : x13_1 = true
   ·subst c7
    have H1 : (some false) = some r := by rw [if_pos rfl] at H; exact H
    clear H
    have H := H1
    clear H1
    obtain rfl := Option.some.inj H
    go_wp2
    go_ret
    exact ⟨ew_, by repeat (first | (with_reducible first | exact HB.out | apply below_alloc | apply pw_below_drewN | apply below_drew1 | refine below_set ?_ GE196.out) | exact HB.out)⟩
   ·replace c7 := Bool.eq_false_iff.mpr c7
    subst c7
    have H1 : (cohousingref23_Few.l0 kj1 0 l0_0 l0_1) = some r := by rw [if_neg (show ¬ (false = true) by decide)] at H; exact H
    clear H
    have H := H1
    clear H1
    have H' := Aside0.mk H
    clear H
    go_wp2
    go_loopg [3] kj1 (fun kq v3 w' => ∃ (x3_2 : Int), v3 = .int .i64 x3_2 ∧ Aside0 (cohousingref23_Few.l0 kq x3_2 l0_0 l0_1 = some r) ∧ Aside0 (kq ≤ kj1) ∧ Aside0 (w'.heap[gb196]? = some (.cells #[(.slice A0_0 l0_0.length c0_0), (.slice A0_1 l0_1.length c0_1)] 25 (0, 0))) ∧ Aside0 (Below w.heap.size w w'))
    case atStart => exact ⟨(0), sd_, H', ⟨Nat.le_refl _⟩, ⟨by (with_reducible repeat (first | refine blk_drewN ?_ _ | refine blk_drew ?_ | refine blk_alloc ?_ _)); exact BK196.out⟩, ⟨by repeat (first | (with_reducible first | exact HB.out | apply below_alloc | apply pw_below_drewN | apply below_drew1 | refine below_set ?_ GE196.out) | exact HB.out)⟩⟩
    case round =>
     clear H'
     try clear c1
     try clear p2
     try clear c4
     try clear c4b0
     try clear c4b1
     try clear c7
     try clear hcz5_0
     try clear hcz5_1
     try clear hcz6_0
     try clear hcz6_1
     try clear hfz5_0
     try clear hfz5_1
     try clear hfz6_0
     try clear hfz6_1
     try clear p2
     obtain ⟨x3_2, rfl, HA, HK2, BK196, HB⟩ := hrel
     cases gk with
     | zero => exact absurd HA.out (by simp [cohousingref23_Few.l0])
     | succ k2 =>
      have H := HA.out
      clear HA
      simp only [cohousingref23_Few.l0] at H
      by_cases c8 : x3_2 < (l0_1.length : Int)
      ·rw [if_pos c8] at H
       have c8b0 : decide (x3_2 < (l0_1.length : Int)) = true := decide_eq_true c8
       clear c8
       by_cases c9 : 0 ≤ x3_2
       ·rw [if_pos c9] at H
        have c9b0 : decide (0 ≤ x3_2) = true := decide_eq_true c9
        clear c9
        by_cases c10 : (((rd_T46 l0_1 x3_2).f2).length : Int) > 30
        ·rw [if_pos c10] at H
         have c10b0 : decide (30 < (((rd_T46 l0_1 x3_2).f2).length : Int)) = true := decide_eq_true c10
         have c10b1 : decide (30 < ((rd_T46 l0_1 x3_2).f2).length) = true := decide_eq_true (by omega)
         clear c10
         obtain rfl := Option.some.inj H
         have hcz11_0 : wr.cell? ⟨gb196, 0, none⟩ = some (.slice A0_0 l0_0.length c0_0) := (blk_cell BK196.out 0).trans rfl
         have hcz11_1 : wr.cell? ⟨gb196, 1, none⟩ = some (.slice A0_1 l0_1.length c0_1) := (blk_cell BK196.out 1).trans rfl
         have hfz11_0 := blk_frozen BK196.out 0
         have hfz11_1 := blk_frozen BK196.out 1
         have p197 : 0 ≤ (x3_2 : Int) := od_
         have q197 : x3_2 < (l0_1.length : Int) := od_
         obtain ⟨ad197, A197_2, c197_2, e197, hx197_0, hx197_1, hx197_2, hl197_2, hi197_2⟩ := at_T46 HR0_1.out x3_2 p197 q197
         cases e197
         replace hx197_0 := (HB.out.cell (World.block_lt_of_cell? w _ hx197_0)).trans hx197_0
         replace hx197_1 := (HB.out.cell (World.block_lt_of_cell? w _ hx197_1)).trans hx197_1
         replace hx197_2 := (HB.out.cell (World.block_lt_of_cell? w _ hx197_2)).trans hx197_2
         have HR197_2 := Aside0.mk hi197_2
         have HC197_2 := Aside0.mk hl197_2
         clear hi197_2 hl197_2
         replace p197 := eq_true p197
         replace q197 := eq_true q197
         go_wp2
         go_ret
         exact ⟨ew_, by repeat (first | (with_reducible first | exact HB.out | apply below_alloc | apply pw_below_drewN | apply below_drew1 | refine below_set ?_ GE196.out) | exact HB.out)⟩
        ·rw [if_neg c10] at H
         have c10b0 : decide (30 < (((rd_T46 l0_1 x3_2).f2).length : Int)) = false := decide_eq_false c10
         have c10b1 : decide (30 < ((rd_T46 l0_1 x3_2).f2).length) = false := decide_eq_false (by omega)
         clear c10
         have H' := Aside0.mk H
         clear H
         have hcz12_0 : wr.cell? ⟨gb196, 0, none⟩ = some (.slice A0_0 l0_0.length c0_0) := (blk_cell BK196.out 0).trans rfl
         have hcz12_1 : wr.cell? ⟨gb196, 1, none⟩ = some (.slice A0_1 l0_1.length c0_1) := (blk_cell BK196.out 1).trans rfl
         have hfz12_0 := blk_frozen BK196.out 0
         have hfz12_1 := blk_frozen BK196.out 1
         have p197 : 0 ≤ (x3_2 : Int) := od_
         have q197 : x3_2 < (l0_1.length : Int) := od_
         obtain ⟨ad197, A197_2, c197_2, e197, hx197_0, hx197_1, hx197_2, hl197_2, hi197_2⟩ := at_T46 HR0_1.out x3_2 p197 q197
         cases e197
         replace hx197_0 := (HB.out.cell (World.block_lt_of_cell? w _ hx197_0)).trans hx197_0
         replace hx197_1 := (HB.out.cell (World.block_lt_of_cell? w _ hx197_1)).trans hx197_1
         replace hx197_2 := (HB.out.cell (World.block_lt_of_cell? w _ hx197_2)).trans hx197_2
         have HR197_2 := Aside0.mk hi197_2
         have HC197_2 := Aside0.mk hl197_2
         clear hi197_2 hl197_2
         replace p197 := eq_true p197
         replace q197 := eq_true q197
         go_wp2
         go_roundg k2
         case measure => have := HJ1.out; have := HK2.out; omega
         case rel => exact ⟨(wrap64 (x3_2 + 1)), sd_, H', ⟨by have := HJ1.out; have := HK2.out; omega⟩, ⟨by (with_reducible repeat (first | refine blk_drewN ?_ _ | refine blk_drew ?_ | refine blk_alloc ?_ _)); exact BK196.out⟩, ⟨by repeat (first | (with_reducible first | exact HB.out | apply below_alloc | apply pw_below_drewN | apply below_drew1 | refine below_set ?_ GE196.out) | exact HB.out)⟩⟩
       ·rw [if_neg c9] at H
        exact absurd H (by simp)
      ·rw [if_neg c8] at H
       have c8b0 : decide (x3_2 < (l0_1.length : Int)) = false := decide_eq_false c8
       clear c8
       obtain rfl := Option.some.inj H
       have hcz13_0 : wr.cell? ⟨gb196, 0, none⟩ = some (.slice A0_0 l0_0.length c0_0) := (blk_cell BK196.out 0).trans rfl
       have hcz13_1 : wr.cell? ⟨gb196, 1, none⟩ = some (.slice A0_1 l0_1.length c0_1) := (blk_cell BK196.out 1).trans rfl
       have hfz13_0 := blk_frozen BK196.out 0
       have hfz13_1 := blk_frozen BK196.out 1
       go_wp2
       go_ret
       exact ⟨ew_, by repeat (first | (with_reducible first | exact HB.out | apply below_alloc | apply pw_below_drewN | apply below_drew1 | refine below_set ?_ GE196.out) | exact HB.out)⟩
end
section
def cohousingref23_In.l0 : Nat → List Int → Int → Int → Option (Int)
 | 0, _, _, _ => none
 | k + 1, x0, x1, x5 => if x5 < (x0.length : Int) then (if 0 ≤ x5 then (if (rd x0 x5) = x1 then (some x5) else (cohousingref23_In.l0 k x0 x1 (wrap64 (x5 + 1)))) else (none)) else (some (-1))
def cohousingref23_In.f (k : Nat) (l0 : List Int) (a1 : Int) : Option (Int) := cohousingref23_In.l0 k l0 a1 0
theorem cohousingref23_In.calls (k : Nat) (A0 : Option Addr) (c0 : Nat) (l0 : List Int) (a1 : Int) (r : Int) (w : World) (hr0 : Kd.C (Kd.int .i64) w A0 l0.length l0) (hc0 : l0.length ≤ c0) (h : cohousingref23_In.f k l0 a1 = some r) :
  Calls Try.prog 24 #[.slice A0 l0.length c0, .int .i64 a1] w fun e w' => e = .returned (.int .i64 r) ∧ Drawn0 w w' := by
 have HR0 := Aside0.mk hr0
 have HC0 := Aside0.mk hc0
 clear hr0 hc0
 have H : (cohousingref23_In.l0 k l0 a1 0) = some r := h
 clear h
 have H' := Aside0.mk H
 clear H
 go_enter Try.func24, Try.ntmps24
 go_wp2
 go_loopg [5] k (fun kq v5 w' => ∃ (x5_1 : Int), v5 = .int .i64 x5_1 ∧ Aside0 (cohousingref23_In.l0 kq l0 a1 x5_1 = some r) ∧ Aside0 (kq ≤ k) ∧ Drawn0 w w')
 case atStart => exact ⟨(0), sd_, H', ⟨Nat.le_refl _⟩, by repeat (first | exact Drawn0.refl _ | apply Drawn0.step)⟩
 case round =>
  clear H'
  try clear c2
  try clear p2
  obtain ⟨x5_1, rfl, HA, HK1, ⟨m1, rfl⟩⟩ := hrel
  cases gk with
  | zero => exact absurd HA.out (by simp [cohousingref23_In.l0])
  | succ k1 =>
   have H := HA.out
   clear HA
   simp only [cohousingref23_In.l0] at H
   by_cases c3 : x5_1 < (l0.length : Int)
   ·rw [if_pos c3] at H
    have c3b0 : decide (x5_1 < (l0.length : Int)) = true := decide_eq_true c3
    clear c3
    by_cases c4 : 0 ≤ x5_1
    ·rw [if_pos c4] at H
     have c4b0 : decide (0 ≤ x5_1) = true := decide_eq_true c4
     clear c4
     by_cases c5 : (rd l0 x5_1) = a1
     ·rw [if_pos c5] at H
      have c5b0 : ((rd l0 x5_1) == a1) = true := beq_iff_eq.mpr c5
      have c5b1 : ((rd l0 x5_1) != a1) = false := bne_eq_false_iff_eq.mpr c5
      clear c5
      obtain rfl := Option.some.inj H
      have p203 : 0 ≤ (x5_1 : Int) := od_
      have q203 : x5_1 < (l0.length : Int) := od_
      obtain ⟨ad203, e203, hx203_0⟩ := Kd.at_int HR0.out x5_1 p203 q203
      cases e203
      replace p203 := eq_true p203
      replace q203 := eq_true q203
      go_wp2
      go_ret
      exact ⟨by first | rfl | (simp; done) | (simp [*]; done), by repeat (first | exact Drawn0.refl _ | apply Drawn0.step)⟩
     ·rw [if_neg c5] at H
      have c5b0 : ((rd l0 x5_1) == a1) = false := beq_eq_false_iff_ne.mpr c5
      have c5b1 : ((rd l0 x5_1) != a1) = true := bne_iff_ne.mpr c5
      have H' := Aside0.mk H
      clear H
      have p203 : 0 ≤ (x5_1 : Int) := od_
      have q203 : x5_1 < (l0.length : Int) := od_
      obtain ⟨ad203, e203, hx203_0⟩ := Kd.at_int HR0.out x5_1 p203 q203
      cases e203
      replace p203 := eq_true p203
      replace q203 := eq_true q203
      go_wp2
      go_roundg k1
      case measure => have := HK1.out; omega
      case rel => exact ⟨(wrap64 (x5_1 + 1)), sd_, H', ⟨by have := HK1.out; omega⟩, by repeat (first | exact Drawn0.refl _ | apply Drawn0.step)⟩
    ·rw [if_neg c4] at H
     exact absurd H (by simp)
   ·rw [if_neg c3] at H
    have c3b0 : decide (x5_1 < (l0.length : Int)) = false := decide_eq_false c3
    clear c3
    obtain rfl := Option.some.inj H
    go_wp2
    go_ret
    exact ⟨by first | rfl | (simp; done) | (simp [*]; done), by repeat (first | exact Drawn0.refl _ | apply Drawn0.step)⟩
end
section
def cohousingref23_Flats.l0 : Nat → List (S84) → Int → Option (Bool)
 | 0, _, _ => none
 | k + 1, x0, x3 => if x3 < (x0.length : Int) then (if 0 ≤ x3 then (if ((rd_T84 x0 x3).f0) < 1 then (some false) else (if ((rd_T84 x0 x3).f0) > 64 then (some false) else (if x3 > 0 then (if 0 ≤ (wrap64 (x3 - 1)) then (if (wrap64 (x3 - 1)) < (x0.length : Int) then (if ((rd_T84 x0 x3).f0) ≤ ((rd_T84 x0 (wrap64 (x3 - 1))).f0) then (some false) else (if ((rd_T84 x0 x3).f1) < 1 then (some false) else (if ((rd_T84 x0 x3).f1) > 10 then (some false) else (cohousingref23_Flats.l0 k x0 (wrap64 (x3 + 1)))))) else (none)) else (none)) else (if ((rd_T84 x0 x3).f1) < 1 then (some false) else (if ((rd_T84 x0 x3).f1) > 10 then (some false) else (cohousingref23_Flats.l0 k x0 (wrap64 (x3 + 1)))))))) else (none)) else (some true)
def cohousingref23_Flats.f (k : Nat) (l0 : List (S84)) : Option (Bool) := if (l0.length : Int) > 64 then (some false) else (cohousingref23_Flats.l0 k l0 0)
theorem cohousingref23_Flats.calls (k : Nat) (A0 : Option Addr) (c0 : Nat) (l0 : List (S84)) (r : Bool) (w : World) (hr0 : Kd.C k84 w A0 l0.length l0) (hc0 : l0.length ≤ c0) (h : cohousingref23_Flats.f k l0 = some r) :
  Calls Try.prog 44 #[.slice A0 l0.length c0] w fun e w' => e = .returned (.bool r) ∧ Drawn0 w w' := by
 have HR0 := Aside0.mk hr0
 have HC0 := Aside0.mk hc0
 clear hr0 hc0
 have H : (if (l0.length : Int) > 64 then (some false) else (cohousingref23_Flats.l0 k l0 0)) = some r := h
 clear h
 by_cases c2 : (l0.length : Int) > 64
 ·rw [if_pos c2] at H
  have c2b0 : decide (64 < (l0.length : Int)) = true := decide_eq_true c2
  have c2b1 : decide (64 < l0.length) = true := decide_eq_true (by omega)
  clear c2
  obtain rfl := Option.some.inj H
  go_enter Try.func44, Try.ntmps44
  go_wp2
  repeat (go_quiet (fail); try go_wp2)
  go_ret
  exact ⟨by first | rfl | (simp; done) | (simp [*]; done), by repeat (first | exact Drawn0.refl _ | apply Drawn0.step)⟩
 ·rw [if_neg c2] at H
  have c2b0 : decide (64 < (l0.length : Int)) = false := decide_eq_false c2
  have c2b1 : decide (64 < l0.length) = false := decide_eq_false (by omega)
  clear c2
  have H' := Aside0.mk H
  clear H
  go_enter Try.func44, Try.ntmps44
  go_wp2
  repeat (go_quiet (fail); try go_wp2)
  go_loopg [3] k (fun kq v3 w' => ∃ (x3_1 : Int), v3 = .int .i64 x3_1 ∧ Aside0 (cohousingref23_Flats.l0 kq l0 x3_1 = some r) ∧ Aside0 (kq ≤ k) ∧ Drawn0 w w')
  case atStart => exact ⟨(0), sd_, H', ⟨Nat.le_refl _⟩, by repeat (first | exact Drawn0.refl _ | apply Drawn0.step)⟩
  case round =>
   clear H'
   try clear c2
   try clear c2b0
   try clear c2b1
   try clear p2
   obtain ⟨x3_1, rfl, HA, HK1, ⟨m1, rfl⟩⟩ := hrel
   cases gk with
   | zero => exact absurd HA.out (by simp [cohousingref23_Flats.l0])
   | succ k1 =>
    have H := HA.out
    clear HA
    simp only [cohousingref23_Flats.l0] at H
    by_cases c3 : x3_1 < (l0.length : Int)
    ·rw [if_pos c3] at H
     have c3b0 : decide (x3_1 < (l0.length : Int)) = true := decide_eq_true c3
     clear c3
     by_cases c4 : 0 ≤ x3_1
     ·rw [if_pos c4] at H
      have c4b0 : decide (0 ≤ x3_1) = true := decide_eq_true c4
      clear c4
      by_cases c5 : ((rd_T84 l0 x3_1).f0) < 1
      ·rw [if_pos c5] at H
       have c5b0 : decide (((rd_T84 l0 x3_1).f0) < 1) = true := decide_eq_true c5
       clear c5
       obtain rfl := Option.some.inj H
       have p204 : 0 ≤ (x3_1 : Int) := od_
       have q204 : x3_1 < (l0.length : Int) := od_
       obtain ⟨ad204, e204, hx204_0, hx204_1⟩ := at_T84 HR0.out x3_1 p204 q204
       cases e204
       replace p204 := eq_true p204
       replace q204 := eq_true q204
       go_wp2
       repeat (go_quiet (fail); try go_wp2)
       go_ret
       exact ⟨by first | rfl | (simp; done) | (simp [*]; done), by repeat (first | exact Drawn0.refl _ | apply Drawn0.step)⟩
      ·rw [if_neg c5] at H
       have c5b0 : decide (((rd_T84 l0 x3_1).f0) < 1) = false := decide_eq_false c5
       clear c5
       by_cases c6 : ((rd_T84 l0 x3_1).f0) > 64
       ·rw [if_pos c6] at H
        have c6b0 : decide (64 < ((rd_T84 l0 x3_1).f0)) = true := decide_eq_true c6
        clear c6
        obtain rfl := Option.some.inj H
        have p204 : 0 ≤ (x3_1 : Int) := od_
        have q204 : x3_1 < (l0.length : Int) := od_
        obtain ⟨ad204, e204, hx204_0, hx204_1⟩ := at_T84 HR0.out x3_1 p204 q204
        cases e204
        replace p204 := eq_true p204
        replace q204 := eq_true q204
        have p205 : 0 ≤ (x3_1 : Int) := od_
        have q205 : x3_1 < (l0.length : Int) := od_
        obtain ⟨ad205, e205, hx205_0, hx205_1⟩ := at_T84 HR0.out x3_1 p205 q205
        obtain rfl : ad204 = ad205 := (by injection e205)
        replace p205 := eq_true p205
        replace q205 := eq_true q205
        go_wp2
        repeat (go_quiet (fail); try go_wp2)
        go_ret
        exact ⟨by first | rfl | (simp; done) | (simp [*]; done), by repeat (first | exact Drawn0.refl _ | apply Drawn0.step)⟩
       ·rw [if_neg c6] at H
        have c6b0 : decide (64 < ((rd_T84 l0 x3_1).f0)) = false := decide_eq_false c6
        clear c6
        by_cases c7 : x3_1 > 0
        ·rw [if_pos c7] at H
         have c7b0 : decide (0 < x3_1) = true := decide_eq_true c7
         clear c7
         obtain ⟨ji8, hji8⟩ : ∃ j_ : Int, (wrap64 (x3_1 - 1)) = j_ := ⟨_, rfl⟩
         replace H : (if 0 ≤ (ji8) then (if (ji8) < (l0.length : Int) then (if ((rd_T84 l0 x3_1).f0) ≤ ((rd_T84 l0 (ji8)).f0) then (some false) else (if ((rd_T84 l0 x3_1).f1) < 1 then (some false) else (if ((rd_T84 l0 x3_1).f1) > 10 then (some false) else (cohousingref23_Flats.l0 k1 l0 (wrap64 (x3_1 + 1)))))) else (none)) else (none)) = some r := by first | (rw [hji8] at H; exact H) | (simp only [hji8] at H ⊢; exact H)
         have hji8w : (IntKind.i64.wrap (x3_1 - 1)) = ji8 := (i64_w _).trans hji8
         by_cases c9 : 0 ≤ (ji8)
         ·rw [if_pos c9] at H
          have c9b0 : decide (0 ≤ (ji8)) = true := decide_eq_true c9
          clear c9
          by_cases c10 : (ji8) < (l0.length : Int)
          ·rw [if_pos c10] at H
           have c10b0 : decide ((ji8) < (l0.length : Int)) = true := decide_eq_true c10
           clear c10
           by_cases c11 : ((rd_T84 l0 x3_1).f0) ≤ ((rd_T84 l0 (ji8)).f0)
           ·rw [if_pos c11] at H
            have c11b0 : decide (((rd_T84 l0 x3_1).f0) ≤ ((rd_T84 l0 (ji8)).f0)) = true := decide_eq_true c11
            clear c11
            obtain rfl := Option.some.inj H
            have p204 : 0 ≤ (x3_1 : Int) := od_
            have q204 : x3_1 < (l0.length : Int) := od_
            obtain ⟨ad204, e204, hx204_0, hx204_1⟩ := at_T84 HR0.out x3_1 p204 q204
            cases e204
            replace p204 := eq_true p204
            replace q204 := eq_true q204
            have p205 : 0 ≤ (x3_1 : Int) := od_
            have q205 : x3_1 < (l0.length : Int) := od_
            obtain ⟨ad205, e205, hx205_0, hx205_1⟩ := at_T84 HR0.out x3_1 p205 q205
            obtain rfl : ad204 = ad205 := (by injection e205)
            replace p205 := eq_true p205
            replace q205 := eq_true q205
            have p206 : 0 ≤ (x3_1 : Int) := od_
            have q206 : x3_1 < (l0.length : Int) := od_
            obtain ⟨ad206, e206, hx206_0, hx206_1⟩ := at_T84 HR0.out x3_1 p206 q206
            obtain rfl : ad204 = ad206 := (by injection e206)
            replace p206 := eq_true p206
            replace q206 := eq_true q206
            have p207 : 0 ≤ ((ji8) : Int) := od_
            have q207 : (ji8) < (l0.length : Int) := od_
            obtain ⟨ad207, e207, hx207_0, hx207_1⟩ := at_T84 HR0.out (ji8) p207 q207
            obtain rfl : ad204 = ad207 := (by injection e207)
            replace p207 := eq_true p207
            replace q207 := eq_true q207
            go_wp2
            repeat (go_quiet (fail); try go_wp2)
            go_ret
            exact ⟨by first | rfl | (simp; done) | (simp only [← hji8] <;> (first | rfl | simp)) | (simp [*]; done), by repeat (first | exact Drawn0.refl _ | apply Drawn0.step)⟩
           ·rw [if_neg c11] at H
            have c11b0 : decide (((rd_T84 l0 x3_1).f0) ≤ ((rd_T84 l0 (ji8)).f0)) = false := decide_eq_false c11
            clear c11
            by_cases c12 : ((rd_T84 l0 x3_1).f1) < 1
            ·rw [if_pos c12] at H
             have c12b0 : decide (((rd_T84 l0 x3_1).f1) < 1) = true := decide_eq_true c12
             clear c12
             obtain rfl := Option.some.inj H
             have p204 : 0 ≤ (x3_1 : Int) := od_
             have q204 : x3_1 < (l0.length : Int) := od_
             obtain ⟨ad204, e204, hx204_0, hx204_1⟩ := at_T84 HR0.out x3_1 p204 q204
             cases e204
             replace p204 := eq_true p204
             replace q204 := eq_true q204
             have p205 : 0 ≤ (x3_1 : Int) := od_
             have q205 : x3_1 < (l0.length : Int) := od_
             obtain ⟨ad205, e205, hx205_0, hx205_1⟩ := at_T84 HR0.out x3_1 p205 q205
             obtain rfl : ad204 = ad205 := (by injection e205)
             replace p205 := eq_true p205
             replace q205 := eq_true q205
             have p206 : 0 ≤ (x3_1 : Int) := od_
             have q206 : x3_1 < (l0.length : Int) := od_
             obtain ⟨ad206, e206, hx206_0, hx206_1⟩ := at_T84 HR0.out x3_1 p206 q206
             obtain rfl : ad204 = ad206 := (by injection e206)
             replace p206 := eq_true p206
             replace q206 := eq_true q206
             have p207 : 0 ≤ ((ji8) : Int) := od_
             have q207 : (ji8) < (l0.length : Int) := od_
             obtain ⟨ad207, e207, hx207_0, hx207_1⟩ := at_T84 HR0.out (ji8) p207 q207
             obtain rfl : ad204 = ad207 := (by injection e207)
             replace p207 := eq_true p207
             replace q207 := eq_true q207
             have p208 : 0 ≤ (x3_1 : Int) := od_
             have q208 : x3_1 < (l0.length : Int) := od_
             obtain ⟨ad208, e208, hx208_0, hx208_1⟩ := at_T84 HR0.out x3_1 p208 q208
             obtain rfl : ad204 = ad208 := (by injection e208)
             replace p208 := eq_true p208
             replace q208 := eq_true q208
             go_wp2
             repeat (go_quiet (fail); try go_wp2)
             go_ret
             exact ⟨by first | rfl | (simp; done) | (simp only [← hji8] <;> (first | rfl | simp)) | (simp [*]; done), by repeat (first | exact Drawn0.refl _ | apply Drawn0.step)⟩
            ·rw [if_neg c12] at H
             have c12b0 : decide (((rd_T84 l0 x3_1).f1) < 1) = false := decide_eq_false c12
             clear c12
             by_cases c13 : ((rd_T84 l0 x3_1).f1) > 10
             ·rw [if_pos c13] at H
              have c13b0 : decide (10 < ((rd_T84 l0 x3_1).f1)) = true := decide_eq_true c13
              clear c13
              obtain rfl := Option.some.inj H
              have p204 : 0 ≤ (x3_1 : Int) := od_
              have q204 : x3_1 < (l0.length : Int) := od_
              obtain ⟨ad204, e204, hx204_0, hx204_1⟩ := at_T84 HR0.out x3_1 p204 q204
              cases e204
              replace p204 := eq_true p204
              replace q204 := eq_true q204
              have p205 : 0 ≤ (x3_1 : Int) := od_
              have q205 : x3_1 < (l0.length : Int) := od_
              obtain ⟨ad205, e205, hx205_0, hx205_1⟩ := at_T84 HR0.out x3_1 p205 q205
              obtain rfl : ad204 = ad205 := (by injection e205)
              replace p205 := eq_true p205
              replace q205 := eq_true q205
              have p206 : 0 ≤ (x3_1 : Int) := od_
              have q206 : x3_1 < (l0.length : Int) := od_
              obtain ⟨ad206, e206, hx206_0, hx206_1⟩ := at_T84 HR0.out x3_1 p206 q206
              obtain rfl : ad204 = ad206 := (by injection e206)
              replace p206 := eq_true p206
              replace q206 := eq_true q206
              have p207 : 0 ≤ ((ji8) : Int) := od_
              have q207 : (ji8) < (l0.length : Int) := od_
              obtain ⟨ad207, e207, hx207_0, hx207_1⟩ := at_T84 HR0.out (ji8) p207 q207
              obtain rfl : ad204 = ad207 := (by injection e207)
              replace p207 := eq_true p207
              replace q207 := eq_true q207
              have p208 : 0 ≤ (x3_1 : Int) := od_
              have q208 : x3_1 < (l0.length : Int) := od_
              obtain ⟨ad208, e208, hx208_0, hx208_1⟩ := at_T84 HR0.out x3_1 p208 q208
              obtain rfl : ad204 = ad208 := (by injection e208)
              replace p208 := eq_true p208
              replace q208 := eq_true q208
              have p209 : 0 ≤ (x3_1 : Int) := od_
              have q209 : x3_1 < (l0.length : Int) := od_
              obtain ⟨ad209, e209, hx209_0, hx209_1⟩ := at_T84 HR0.out x3_1 p209 q209
              obtain rfl : ad204 = ad209 := (by injection e209)
              replace p209 := eq_true p209
              replace q209 := eq_true q209
              go_wp2
              repeat (go_quiet (fail); try go_wp2)
              go_ret
              exact ⟨by first | rfl | (simp; done) | (simp only [← hji8] <;> (first | rfl | simp)) | (simp [*]; done), by repeat (first | exact Drawn0.refl _ | apply Drawn0.step)⟩
             ·rw [if_neg c13] at H
              have c13b0 : decide (10 < ((rd_T84 l0 x3_1).f1)) = false := decide_eq_false c13
              clear c13
              have H' := Aside0.mk H
              clear H
              have p204 : 0 ≤ (x3_1 : Int) := od_
              have q204 : x3_1 < (l0.length : Int) := od_
              obtain ⟨ad204, e204, hx204_0, hx204_1⟩ := at_T84 HR0.out x3_1 p204 q204
              cases e204
              replace p204 := eq_true p204
              replace q204 := eq_true q204
              have p205 : 0 ≤ (x3_1 : Int) := od_
              have q205 : x3_1 < (l0.length : Int) := od_
              obtain ⟨ad205, e205, hx205_0, hx205_1⟩ := at_T84 HR0.out x3_1 p205 q205
              obtain rfl : ad204 = ad205 := (by injection e205)
              replace p205 := eq_true p205
              replace q205 := eq_true q205
              have p206 : 0 ≤ (x3_1 : Int) := od_
              have q206 : x3_1 < (l0.length : Int) := od_
              obtain ⟨ad206, e206, hx206_0, hx206_1⟩ := at_T84 HR0.out x3_1 p206 q206
              obtain rfl : ad204 = ad206 := (by injection e206)
              replace p206 := eq_true p206
              replace q206 := eq_true q206
              have p207 : 0 ≤ ((ji8) : Int) := od_
              have q207 : (ji8) < (l0.length : Int) := od_
              obtain ⟨ad207, e207, hx207_0, hx207_1⟩ := at_T84 HR0.out (ji8) p207 q207
              obtain rfl : ad204 = ad207 := (by injection e207)
              replace p207 := eq_true p207
              replace q207 := eq_true q207
              have p208 : 0 ≤ (x3_1 : Int) := od_
              have q208 : x3_1 < (l0.length : Int) := od_
              obtain ⟨ad208, e208, hx208_0, hx208_1⟩ := at_T84 HR0.out x3_1 p208 q208
              obtain rfl : ad204 = ad208 := (by injection e208)
              replace p208 := eq_true p208
              replace q208 := eq_true q208
              have p209 : 0 ≤ (x3_1 : Int) := od_
              have q209 : x3_1 < (l0.length : Int) := od_
              obtain ⟨ad209, e209, hx209_0, hx209_1⟩ := at_T84 HR0.out x3_1 p209 q209
              obtain rfl : ad204 = ad209 := (by injection e209)
              replace p209 := eq_true p209
              replace q209 := eq_true q209
              go_wp2
              repeat (go_quiet (fail); try go_wp2)
              go_roundg k1
              case measure => have := HK1.out; omega
              case rel => exact ⟨(wrap64 (x3_1 + 1)), sd_, H', ⟨by have := HK1.out; omega⟩, by repeat (first | exact Drawn0.refl _ | apply Drawn0.step)⟩
          ·rw [if_neg c10] at H
           exact absurd H (by simp)
         ·rw [if_neg c9] at H
          exact absurd H (by simp)
        ·rw [if_neg c7] at H
         have c7b0 : decide (0 < x3_1) = false := decide_eq_false c7
         clear c7
         by_cases c14 : ((rd_T84 l0 x3_1).f1) < 1
         ·rw [if_pos c14] at H
          have c14b0 : decide (((rd_T84 l0 x3_1).f1) < 1) = true := decide_eq_true c14
          clear c14
          obtain rfl := Option.some.inj H
          have p204 : 0 ≤ (x3_1 : Int) := od_
          have q204 : x3_1 < (l0.length : Int) := od_
          obtain ⟨ad204, e204, hx204_0, hx204_1⟩ := at_T84 HR0.out x3_1 p204 q204
          cases e204
          replace p204 := eq_true p204
          replace q204 := eq_true q204
          have p205 : 0 ≤ (x3_1 : Int) := od_
          have q205 : x3_1 < (l0.length : Int) := od_
          obtain ⟨ad205, e205, hx205_0, hx205_1⟩ := at_T84 HR0.out x3_1 p205 q205
          obtain rfl : ad204 = ad205 := (by injection e205)
          replace p205 := eq_true p205
          replace q205 := eq_true q205
          have p210 : 0 ≤ (x3_1 : Int) := od_
          have q210 : x3_1 < (l0.length : Int) := od_
          obtain ⟨ad210, e210, hx210_0, hx210_1⟩ := at_T84 HR0.out x3_1 p210 q210
          obtain rfl : ad204 = ad210 := (by injection e210)
          replace p210 := eq_true p210
          replace q210 := eq_true q210
          go_wp2
          repeat (go_quiet (fail); try go_wp2)
          go_ret
          exact ⟨by first | rfl | (simp; done) | (simp [*]; done), by repeat (first | exact Drawn0.refl _ | apply Drawn0.step)⟩
         ·rw [if_neg c14] at H
          have c14b0 : decide (((rd_T84 l0 x3_1).f1) < 1) = false := decide_eq_false c14
          clear c14
          by_cases c15 : ((rd_T84 l0 x3_1).f1) > 10
          ·rw [if_pos c15] at H
           have c15b0 : decide (10 < ((rd_T84 l0 x3_1).f1)) = true := decide_eq_true c15
           clear c15
           obtain rfl := Option.some.inj H
           have p204 : 0 ≤ (x3_1 : Int) := od_
           have q204 : x3_1 < (l0.length : Int) := od_
           obtain ⟨ad204, e204, hx204_0, hx204_1⟩ := at_T84 HR0.out x3_1 p204 q204
           cases e204
           replace p204 := eq_true p204
           replace q204 := eq_true q204
           have p205 : 0 ≤ (x3_1 : Int) := od_
           have q205 : x3_1 < (l0.length : Int) := od_
           obtain ⟨ad205, e205, hx205_0, hx205_1⟩ := at_T84 HR0.out x3_1 p205 q205
           obtain rfl : ad204 = ad205 := (by injection e205)
           replace p205 := eq_true p205
           replace q205 := eq_true q205
           have p210 : 0 ≤ (x3_1 : Int) := od_
           have q210 : x3_1 < (l0.length : Int) := od_
           obtain ⟨ad210, e210, hx210_0, hx210_1⟩ := at_T84 HR0.out x3_1 p210 q210
           obtain rfl : ad204 = ad210 := (by injection e210)
           replace p210 := eq_true p210
           replace q210 := eq_true q210
           have p211 : 0 ≤ (x3_1 : Int) := od_
           have q211 : x3_1 < (l0.length : Int) := od_
           obtain ⟨ad211, e211, hx211_0, hx211_1⟩ := at_T84 HR0.out x3_1 p211 q211
           obtain rfl : ad204 = ad211 := (by injection e211)
           replace p211 := eq_true p211
           replace q211 := eq_true q211
           go_wp2
           repeat (go_quiet (fail); try go_wp2)
           go_ret
           exact ⟨by first | rfl | (simp; done) | (simp [*]; done), by repeat (first | exact Drawn0.refl _ | apply Drawn0.step)⟩
          ·rw [if_neg c15] at H
           have c15b0 : decide (10 < ((rd_T84 l0 x3_1).f1)) = false := decide_eq_false c15
           clear c15
           have H' := Aside0.mk H
           clear H
           have p204 : 0 ≤ (x3_1 : Int) := od_
           have q204 : x3_1 < (l0.length : Int) := od_
           obtain ⟨ad204, e204, hx204_0, hx204_1⟩ := at_T84 HR0.out x3_1 p204 q204
           cases e204
           replace p204 := eq_true p204
           replace q204 := eq_true q204
           have p205 : 0 ≤ (x3_1 : Int) := od_
           have q205 : x3_1 < (l0.length : Int) := od_
           obtain ⟨ad205, e205, hx205_0, hx205_1⟩ := at_T84 HR0.out x3_1 p205 q205
           obtain rfl : ad204 = ad205 := (by injection e205)
           replace p205 := eq_true p205
           replace q205 := eq_true q205
           have p210 : 0 ≤ (x3_1 : Int) := od_
           have q210 : x3_1 < (l0.length : Int) := od_
           obtain ⟨ad210, e210, hx210_0, hx210_1⟩ := at_T84 HR0.out x3_1 p210 q210
           obtain rfl : ad204 = ad210 := (by injection e210)
           replace p210 := eq_true p210
           replace q210 := eq_true q210
           have p211 : 0 ≤ (x3_1 : Int) := od_
           have q211 : x3_1 < (l0.length : Int) := od_
           obtain ⟨ad211, e211, hx211_0, hx211_1⟩ := at_T84 HR0.out x3_1 p211 q211
           obtain rfl : ad204 = ad211 := (by injection e211)
           replace p211 := eq_true p211
           replace q211 := eq_true q211
           go_wp2
           repeat (go_quiet (fail); try go_wp2)
           go_roundg k1
           case measure => have := HK1.out; omega
           case rel => exact ⟨(wrap64 (x3_1 + 1)), sd_, H', ⟨by have := HK1.out; omega⟩, by repeat (first | exact Drawn0.refl _ | apply Drawn0.step)⟩
     ·rw [if_neg c4] at H
      exact absurd H (by simp)
    ·rw [if_neg c3] at H
     have c3b0 : decide (x3_1 < (l0.length : Int)) = false := decide_eq_false c3
     clear c3
     obtain rfl := Option.some.inj H
     go_wp2
     repeat (go_quiet (fail); try go_wp2)
     go_ret
     exact ⟨by first | rfl | (simp; done) | (simp [*]; done), by repeat (first | exact Drawn0.refl _ | apply Drawn0.step)⟩
end
section
def cohousingref23_Has.l0 : Nat → List (S84) → Int → Int → Option (Bool)
 | 0, _, _, _ => none
 | k + 1, x0, x1, x5 => if x5 < (x0.length : Int) then (if 0 ≤ x5 then (if ((rd_T84 x0 x5).f0) = x1 then (some true) else (cohousingref23_Has.l0 k x0 x1 (wrap64 (x5 + 1)))) else (none)) else (some false)
def cohousingref23_Has.f (k : Nat) (l0 : List (S84)) (a1 : Int) : Option (Bool) := cohousingref23_Has.l0 k l0 a1 0
theorem cohousingref23_Has.calls (k : Nat) (A0 : Option Addr) (c0 : Nat) (l0 : List (S84)) (a1 : Int) (r : Bool) (w : World) (hr0 : Kd.C k84 w A0 l0.length l0) (hc0 : l0.length ≤ c0) (h : cohousingref23_Has.f k l0 a1 = some r) :
  Calls Try.prog 45 #[.slice A0 l0.length c0, .int .i64 a1] w fun e w' => e = .returned (.bool r) ∧ Drawn0 w w' := by
 have HR0 := Aside0.mk hr0
 have HC0 := Aside0.mk hc0
 clear hr0 hc0
 have H : (cohousingref23_Has.l0 k l0 a1 0) = some r := h
 clear h
 have H' := Aside0.mk H
 clear H
 go_enter Try.func45, Try.ntmps45
 go_wp2
 go_loopg [5] k (fun kq v5 w' => ∃ (x5_1 : Int), v5 = .int .i64 x5_1 ∧ Aside0 (cohousingref23_Has.l0 kq l0 a1 x5_1 = some r) ∧ Aside0 (kq ≤ k) ∧ Drawn0 w w')
 case atStart => exact ⟨(0), sd_, H', ⟨Nat.le_refl _⟩, by repeat (first | exact Drawn0.refl _ | apply Drawn0.step)⟩
 case round =>
  clear H'
  try clear p2
  obtain ⟨x5_1, rfl, HA, HK1, ⟨m1, rfl⟩⟩ := hrel
  cases gk with
  | zero => exact absurd HA.out (by simp [cohousingref23_Has.l0])
  | succ k1 =>
   have H := HA.out
   clear HA
   simp only [cohousingref23_Has.l0] at H
   by_cases c3 : x5_1 < (l0.length : Int)
   ·rw [if_pos c3] at H
    have c3b0 : decide (x5_1 < (l0.length : Int)) = true := decide_eq_true c3
    clear c3
    by_cases c4 : 0 ≤ x5_1
    ·rw [if_pos c4] at H
     have c4b0 : decide (0 ≤ x5_1) = true := decide_eq_true c4
     clear c4
     by_cases c5 : ((rd_T84 l0 x5_1).f0) = a1
     ·rw [if_pos c5] at H
      have c5b0 : (((rd_T84 l0 x5_1).f0) == a1) = true := beq_iff_eq.mpr c5
      have c5b1 : (((rd_T84 l0 x5_1).f0) != a1) = false := bne_eq_false_iff_eq.mpr c5
      clear c5
      obtain rfl := Option.some.inj H
      have p212 : 0 ≤ (x5_1 : Int) := od_
      have q212 : x5_1 < (l0.length : Int) := od_
      obtain ⟨ad212, e212, hx212_0, hx212_1⟩ := at_T84 HR0.out x5_1 p212 q212
      cases e212
      replace p212 := eq_true p212
      replace q212 := eq_true q212
      go_wp2
      go_ret
      exact ⟨by first | rfl | (simp; done) | (simp [*]; done), by repeat (first | exact Drawn0.refl _ | apply Drawn0.step)⟩
     ·rw [if_neg c5] at H
      have c5b0 : (((rd_T84 l0 x5_1).f0) == a1) = false := beq_eq_false_iff_ne.mpr c5
      have c5b1 : (((rd_T84 l0 x5_1).f0) != a1) = true := bne_iff_ne.mpr c5
      have H' := Aside0.mk H
      clear H
      have p212 : 0 ≤ (x5_1 : Int) := od_
      have q212 : x5_1 < (l0.length : Int) := od_
      obtain ⟨ad212, e212, hx212_0, hx212_1⟩ := at_T84 HR0.out x5_1 p212 q212
      cases e212
      replace p212 := eq_true p212
      replace q212 := eq_true q212
      go_wp2
      go_roundg k1
      case measure => have := HK1.out; omega
      case rel => exact ⟨(wrap64 (x5_1 + 1)), sd_, H', ⟨by have := HK1.out; omega⟩, by repeat (first | exact Drawn0.refl _ | apply Drawn0.step)⟩
    ·rw [if_neg c4] at H
     exact absurd H (by simp)
   ·rw [if_neg c3] at H
    have c3b0 : decide (x5_1 < (l0.length : Int)) = false := decide_eq_false c3
    clear c3
    obtain rfl := Option.some.inj H
    go_wp2
    go_ret
    exact ⟨by first | rfl | (simp; done) | (simp [*]; done), by repeat (first | exact Drawn0.refl _ | apply Drawn0.step)⟩
end
end Go.Proofs.Ytocbiggglnpeoaa.P
end
