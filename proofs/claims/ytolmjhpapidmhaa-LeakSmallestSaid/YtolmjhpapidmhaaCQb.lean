/- Part 2 of the base that the seat's proofs share: words, walks and plain laws. -/
import Derived.ArgAppend
import Derived.Below
import Derived.BigQuiet
import Derived.ChangeOld
import Derived.ChangeSlices
import Derived.Deep.AppendLies
import Derived.Deep.CutBlock
import Derived.Deep.DeepCutAuto
import Derived.Deep.Draws
import Derived.Deep.LoopGhost
import Derived.Deep.OwnRows
import Derived.Deep.QuietTactic
import Derived.Deep.RegionHeld3
import Derived.Deep.Slices
import Derived.KernelRfl
import Derived.Laws.BitsLemmas
import Derived.Laws.BytesArg
import Derived.Laws.IdiomCopy
import Derived.Laws.MakeOwn
import Derived.Laws.OwnMore
import Derived.Laws.Rows
import Derived.Laws.Slices
import Derived.Laws.StructEq
import Derived.Lib.AppendStr
import Derived.Lib.BufferOwn
import Derived.Lib.ConvBytes
import Derived.Lib.SliceRun
import Derived.LoopIn
import Derived.LoopNIn
import Derived.Maps.AppendAt
import Derived.Maps.Own
import Derived.OpenShut
import Derived.OrdersHeld
import Derived.OwnWalk
import Derived.OwnWalkIn
import Derived.ProofKit
import Derived.RangeFuncBound
import Derived.RangeFuncCalls
import Derived.RangeFuncLeaves
import Derived.RangeFuncNested
import Derived.RowKit
import Derived.RowKit3
import Derived.ShutString
import Derived.SizedLaws
import Derived.Tactics
import Derived.TacticsInMore
import Derived.Test.YtolmjhpapidmhaaProg
import Derived.WalkKit
import Derived.WideLaws
import Derived.Test.YtolmjhpapidmhaaCQa
set_option linter.unusedVariables false
set_option linter.unusedSimpArgs false
section
namespace Go.Proofs.Ytolmjhpapidmhaa.P
open Go.RowKit Go.Proofs.YtolmjhpapidmhaaW.PrintWords Go.Proofs.YtolmjhpapidmhaaW.PrintLast Go.Proofs.YtolmjhpapidmhaaW.PrintMore
attribute [local go_sem] max2_int min2_int max_two min_two max_three min_three max_four min_four
set_option linter.unusedVariables false
set_option linter.unusedSimpArgs false
set_option maxHeartbeats 8000000
set_option maxRecDepth 100000
section
def totalF (φ : S74 → Int) (l : List S74) : Int := l.foldl (fun s x => wrap64 (s + φ x)) 0
theorem totalF_snoc (φ : S74 → Int) (l : List S74) (i : Int) (h0 : 0 ≤ i) (h : i < l.length) : totalF φ (l.take (i + 1).toNat) = wrap64 (totalF φ (l.take i.toNat) + φ (rd_T74 l i)) := by
 have e : (i + 1).toNat = i.toNat + 1 := by omega
 have h' : i.toNat < l.length := by omega
 rw [e, List.take_succ_eq_append_getElem h']
 unfold totalF
 rw [List.foldl_append]
 simp [rd_T74, List.getD_eq_getElem?_getD, h']
theorem flow_total_low (A0 : Option Addr) (c0 : Nat) (l0 : List (S74)) (w : World) (hr0 : Kd.C k74 w A0 l0.length l0) (hc0 : l0.length ≤ c0) (hn : l0.length ≤ 140737488355328) :
 Calls Try.prog 66 #[.slice A0 l0.length c0, .func (.func 67) #[] #[]] w fun e w' => e = .returned (.int .i64 (totalF S74.f0 l0)) ∧ Below w.heap.size w w' := by
 have hu74 := Try.underlying74
 have HR0 := Aside0.mk hr0
 have HC0 := Aside0.mk hc0
 have HN := Aside0.mk hn
 clear hr0 hc0 hn
 have HB := Aside0.mk (Below.refl w.heap.size w)
 go_enter Try.func66, Try.ntmps66
 go_wp2
 go_loopg [5, 10] l0.length (fun kq v5 v10 w' => ∃ (i : Int) (s : Int), v10 = .int .i64 i ∧ v5 = .int .i64 s ∧ Aside0 (s = totalF S74.f0 (l0.take i.toNat)) ∧ Aside0 (0 ≤ i ∧ kq + i.toNat = l0.length) ∧ Aside0 (Below w.heap.size w w'))
 case atStart => exact ⟨0, 0, rfl, rfl, ⟨by simp [totalF]⟩, ⟨by simp⟩, HB⟩
 case round =>
  obtain ⟨i, s, rfl, rfl, HS, HK, HB⟩ := hrel
  by_cases hlt : i < l0.length
  ·have c1 : decide ((i:Int) < (l0.length : Int)) = true := decide_eq_true hlt
   have c2 : (0 ≤ i) = True := eq_true HK.out.1
   have c3 : (i < l0.length) = True := eq_true hlt
   obtain ⟨ad, e, hx0, hx1⟩ := at_T74 HR0.out i HK.out.1 hlt
   cases e
   replace hx0 := (HB.out.cell (World.block_lt_of_cell? w _ hx0)).trans hx0
   replace hx1 := (HB.out.cell (World.block_lt_of_cell? w _ hx1)).trans hx1
   have HL := Aside0.mk hlt
   clear hlt
   have hw1 : i + 1 ≤ 9223372036854775807 := by have := HN.out; have := HL.out; omega
   have hw2 : 0 ≤ i + 1 := by have := HK.out; omega
   go_wp2_with (first | ((with_reducible refine (flow_interval_low.calls (rd_T74 l0 i).f0 (rd_T74 l0 i).f1 _ _ rfl).mono ?_); rintro e w1 ⟨rfl, hb⟩; have HB1 := Aside0.mk hb; clear hb))
   go_roundg (gk - 1)
   case measure => have := HK.out; have := HL.out; omega
   case rel =>
    refine ⟨i + 1, _, ?_, rfl, ⟨?_⟩, ⟨by have := HK.out; have := HL.out; omega⟩, ⟨?_⟩⟩
    ·first | rfl | (simp; done)
    ·rw [totalF_snoc _ _ _ HK.out.1 HL.out, HS.out]
    ·have h1 := HB.out.alloc HB.out.size (.cells #[.int .i64 (rd_T74 l0 i).f0, .int .i64 (rd_T74 l0 i).f1] 74)
     exact h1.trans (HB1.out.mono (by simp; have := HB.out.size; omega))
  ·have c1 : decide ((i:Int) < (l0.length : Int)) = false := decide_eq_false hlt
   have HL := Aside0.mk hlt
   clear hlt
   go_wp2
   go_ret
   refine ⟨?_, HB.out⟩
   have : i.toNat = l0.length := by have := HK.out; have := HL.out; omega
   show Ending.returned (.int .i64 s) = _
   rw [HS.out, this, List.take_length]
theorem flow_total_high (A0 : Option Addr) (c0 : Nat) (l0 : List (S74)) (w : World) (hr0 : Kd.C k74 w A0 l0.length l0) (hc0 : l0.length ≤ c0) (hn : l0.length ≤ 140737488355328) :
 Calls Try.prog 66 #[.slice A0 l0.length c0, .func (.func 68) #[] #[]] w fun e w' => e = .returned (.int .i64 (totalF S74.f1 l0)) ∧ Below w.heap.size w w' := by
 have hu74 := Try.underlying74
 have HR0 := Aside0.mk hr0
 have HC0 := Aside0.mk hc0
 have HN := Aside0.mk hn
 clear hr0 hc0 hn
 have HB := Aside0.mk (Below.refl w.heap.size w)
 go_enter Try.func66, Try.ntmps66
 go_wp2
 go_loopg [5, 10] l0.length (fun kq v5 v10 w' => ∃ (i : Int) (s : Int), v10 = .int .i64 i ∧ v5 = .int .i64 s ∧ Aside0 (s = totalF S74.f1 (l0.take i.toNat)) ∧ Aside0 (0 ≤ i ∧ kq + i.toNat = l0.length) ∧ Aside0 (Below w.heap.size w w'))
 case atStart => exact ⟨0, 0, rfl, rfl, ⟨by simp [totalF]⟩, ⟨by simp⟩, HB⟩
 case round =>
  obtain ⟨i, s, rfl, rfl, HS, HK, HB⟩ := hrel
  by_cases hlt : i < l0.length
  ·have c1 : decide ((i:Int) < (l0.length : Int)) = true := decide_eq_true hlt
   have c2 : (0 ≤ i) = True := eq_true HK.out.1
   have c3 : (i < l0.length) = True := eq_true hlt
   obtain ⟨ad, e, hx0, hx1⟩ := at_T74 HR0.out i HK.out.1 hlt
   cases e
   replace hx0 := (HB.out.cell (World.block_lt_of_cell? w _ hx0)).trans hx0
   replace hx1 := (HB.out.cell (World.block_lt_of_cell? w _ hx1)).trans hx1
   have HL := Aside0.mk hlt
   clear hlt
   have hw1 : i + 1 ≤ 9223372036854775807 := by have := HN.out; have := HL.out; omega
   have hw2 : 0 ≤ i + 1 := by have := HK.out; omega
   go_wp2_with (first | ((with_reducible refine (flow_interval_high.calls (rd_T74 l0 i).f0 (rd_T74 l0 i).f1 _ _ rfl).mono ?_); rintro e w1 ⟨rfl, hb⟩; have HB1 := Aside0.mk hb; clear hb))
   go_roundg (gk - 1)
   case measure => have := HK.out; have := HL.out; omega
   case rel =>
    refine ⟨i + 1, _, ?_, rfl, ⟨?_⟩, ⟨by have := HK.out; have := HL.out; omega⟩, ⟨?_⟩⟩
    ·first | rfl | (simp; done)
    ·rw [totalF_snoc _ _ _ HK.out.1 HL.out, HS.out]
    ·have h1 := HB.out.alloc HB.out.size (.cells #[.int .i64 (rd_T74 l0 i).f0, .int .i64 (rd_T74 l0 i).f1] 74)
     exact h1.trans (HB1.out.mono (by simp; have := HB.out.size; omega))
  ·have c1 : decide ((i:Int) < (l0.length : Int)) = false := decide_eq_false hlt
   have HL := Aside0.mk hlt
   clear hlt
   go_wp2
   go_ret
   refine ⟨?_, HB.out⟩
   have : i.toNat = l0.length := by have := HK.out; have := HL.out; omega
   show Ending.returned (.int .i64 s) = _
   rw [HS.out, this, List.take_length]
end
section
def flow_network_below.l0 : Nat → List (S74) → List (S74) → List Int → Int → Int → Option ((List (S74)))
 | 0, _, _, _, _, _ => none
 | k + 1, x1, x7, x14, x15, x16 => if x16 < x15 then (if 0 ≤ x16 then (if x16 < (x14.length : Int) then (if 0 ≤ (rd x14 x16) then (if (rd x14 x16) < (x1.length : Int) then (if x7.length < 8796093022208 then (flow_network_below.l0 k x1 (x7 ++ [(⟨(rd_T74 x1 (rd x14 x16)).f0, (rd_T74 x1 (rd x14 x16)).f1⟩ : S74)]) x14 x15 (wrap64 (x16 + 1))) else (none)) else (none)) else (none)) else (none)) else (none)) else (some x7)
def flow_network_below.f (k : Nat) (l0_0 : List (S44)) (l0_1 : List (List Int)) (l1 : List (S74)) (a2 : Int) : Option ((List (S74))) := if 0 ≤ a2 then (if a2 < (l0_1.length : Int) then (flow_network_below.l0 k l1 ([] : List (S74)) (rd_L3 l0_1 a2) ((rd_L3 l0_1 a2).length : Int) 0) else (none)) else (none)
theorem flow_network_below.calls (k : Nat) (A0_0 : Option Addr) (c0_0 : Nat) (l0_0 : List (S44)) (A0_1 : Option Addr) (c0_1 : Nat) (l0_1 : List (List Int)) (A1 : Option Addr) (c1 : Nat) (l1 : List (S74)) (a2 : Int) (r : List (S74)) (w : World) (hr0_0 : Kd.C k44 w A0_0 l0_0.length l0_0) (hc0_0 : l0_0.length ≤ c0_0) (hr0_1 : Kd.C (Kd.slice 3 (Kd.int .i64)) w A0_1 l0_1.length l0_1) (hc0_1 : l0_1.length ≤ c0_1) (hr1 : Kd.C k74 w A1 l1.length l1) (hc1 : l1.length ≤ c1) (h : flow_network_below.f k l0_0 l0_1 l1 a2 = some r) :
  Calls Try.prog 64 #[.agg #[.slice A0_0 l0_0.length c0_0, .slice A0_1 l0_1.length c0_1], .slice A1 l1.length c1, .int .i64 a2] w fun e w' => ∃ v0_ : Value, e = .returned (v0_) ∧ Kd.R k74 74 w' w.heap.size (fun _ => True) v0_ r ∧ Below w.heap.size w w' := by
 have hu67 := Try.underlying67
 have hu74 := Try.underlying74
 have HR0_0 := Aside0.mk hr0_0
 have HC0_0 := Aside0.mk hc0_0
 clear hr0_0 hc0_0
 have HR0_1 := Aside0.mk hr0_1
 have HC0_1 := Aside0.mk hc0_1
 clear hr0_1 hc0_1
 have HR1 := Aside0.mk hr1
 have HC1 := Aside0.mk hc1
 clear hr1 hc1
 have HB := Aside0.mk (Below.refl w.heap.size w)
 have H : (if 0 ≤ a2 then (if a2 < (l0_1.length : Int) then (flow_network_below.l0 k l1 ([] : List (S74)) (rd_L3 l0_1 a2) ((rd_L3 l0_1 a2).length : Int) 0) else (none)) else (none)) = some r := h
 clear h
 by_cases c4 : 0 ≤ a2
 ·rw [if_pos c4] at H
  have c4b0 : decide (0 ≤ a2) = true := decide_eq_true c4
  clear c4
  by_cases c5 : a2 < (l0_1.length : Int)
  ·rw [if_pos c5] at H
   have c5b0 : decide (a2 < (l0_1.length : Int)) = true := decide_eq_true c5
   clear c5
   have H' := Aside0.mk H
   clear H
   go_enter Try.func64, Try.ntmps64
   go_wp2_with (first | ((with_reducible refine gate_dst (N := 3) rfl ?_); refine box_event ?hg (N := 3) ?hd (cs := #[.slice A0_0 l0_0.length c0_0, .slice A0_1 l0_1.length c0_1]) (t := 67) ?hr ?_; (case hd => rfl); (case hg => rfl); (case hr => first | (go_simp; done) | (go_simp; rfl)); intro gb109 hg w6 hbox hb; have n0_ := Aside0.mk (below_step (bb_ HB) hb); have n1_ := Aside0.mk (hbox); have n2_ := Aside0.mk ((by rw [hg]; exact (below_size (bb_ HB)) : w.heap.size ≤ gb109)); have n3_ := Aside0.mk ((by rw [hg]; exact (below_size (bb_ HB)) : w.heap.size ≤ gb109)); clear HB; have HB := n0_; have BK109 := n1_; have GW109 := n2_; have GE109 := n3_; clear n0_ n1_ n2_ n3_; clear hb hbox hg; have hcz7_0 : w6.cell? ⟨gb109, 0, none⟩ = some (.slice A0_0 l0_0.length c0_0) := (blk_cell BK109.out 0).trans rfl; have hcz7_1 : w6.cell? ⟨gb109, 1, none⟩ = some (.slice A0_1 l0_1.length c0_1) := (blk_cell BK109.out 1).trans rfl; have hfz7_0 := blk_frozen BK109.out 0; have hfz7_1 := blk_frozen BK109.out 1; have p110 : 0 ≤ (a2 : Int) := od_; have q110 : a2 < (l0_1.length : Int) := od_; obtain ⟨ad110, A110_0, c110_0, e110, hx110_0, hl110_0, hi110_0⟩ := at_L3 HR0_1.out a2 p110 q110; cases e110; replace hx110_0 := (HB.out.cell (World.block_lt_of_cell? w _ hx110_0)).trans hx110_0; have HR110_0 := Aside0.mk hi110_0; have HC110_0 := Aside0.mk hl110_0; clear hi110_0 hl110_0; replace p110 := eq_true p110; replace q110 := eq_true q110))
   go_loopg [7, 16] k (fun kq v7 v16 w' => ∃ (x7_1 : List (S74)) (x16_1 : Int), v16 = .int .i64 x16_1 ∧ Aside0 (flow_network_below.l0 kq l1 x7_1 (rd_L3 l0_1 a2) ((rd_L3 l0_1 a2).length : Int) x16_1 = some r) ∧ Aside0 (kq ≤ k) ∧ Aside0 (Kd.R k74 74 w' w.heap.size (fun _ => True) v7 x7_1) ∧ Aside0 (w'.heap[gb109]? = some (.cells #[(.slice A0_0 l0_0.length c0_0), (.slice (some ad110) l0_1.length c0_1)] 67 (0, 0))) ∧ Aside0 (Below w.heap.size w w'))
   case atStart => exact ⟨(([] : List (S74))), (0), sd_, H', ⟨Nat.le_refl _⟩, ⟨by first | exact Kd.R_nil _ _ _ _ _ | exact Kd.N_nil _ _ _ _ _ | exact Kd.V_nil _ _ _ _ _ | exact Kd.Q_nil _ _ _ _ _ | exact Kd.S_nil _ _ _ _ _⟩, ⟨by (with_reducible repeat (first | refine blk_drewN ?_ _ | refine blk_drew ?_ | refine blk_alloc ?_ _)); exact BK109.out⟩, ⟨by repeat (first | (with_reducible first | exact HB.out | apply below_alloc | apply pw_below_drewN | apply below_drew1 | refine below_set ?_ GE109.out) | exact HB.out)⟩⟩
   case round =>
    clear H'
    try clear c1
    try clear p1
    try clear q1
    try clear hx1
    try clear p2
    try clear c4
    try clear c4b0
    try clear c5
    try clear c5b0
    try clear c6
    try clear hcz7_0
    try clear hcz7_1
    try clear hfz7_0
    try clear hfz7_1
    try clear hx110_0
    try clear p110
    try clear q110
    obtain ⟨x7_1, x16_1, rfl, HA, HK1, HO_7, BK109, HB⟩ := hrel
    cases gk with
    | zero => exact absurd HA.out (by simp [flow_network_below.l0])
    | succ k1 =>
     have H := HA.out
     clear HA
     simp only [flow_network_below.l0] at H
     by_cases c8 : x16_1 < ((rd_L3 l0_1 a2).length : Int)
     ·rw [if_pos c8] at H
      have c8b0 : decide (x16_1 < ((rd_L3 l0_1 a2).length : Int)) = true := decide_eq_true c8
      clear c8
      by_cases c9 : 0 ≤ x16_1
      ·rw [if_pos c9] at H
       have c9b0 : decide (0 ≤ x16_1) = true := decide_eq_true c9
       clear c9
       by_cases c10 : x16_1 < ((rd_L3 l0_1 a2).length : Int)
       ·rw [if_pos c10] at H
        have c10b0 : decide (x16_1 < ((rd_L3 l0_1 a2).length : Int)) = true := decide_eq_true c10
        clear c10
        by_cases c11 : 0 ≤ (rd (rd_L3 l0_1 a2) x16_1)
        ·rw [if_pos c11] at H
         have c11b0 : decide (0 ≤ (rd (rd_L3 l0_1 a2) x16_1)) = true := decide_eq_true c11
         clear c11
         by_cases c12 : (rd (rd_L3 l0_1 a2) x16_1) < (l1.length : Int)
         ·rw [if_pos c12] at H
          have c12b0 : decide ((rd (rd_L3 l0_1 a2) x16_1) < (l1.length : Int)) = true := decide_eq_true c12
          clear c12
          by_cases c13 : x7_1.length < 8796093022208
          ·rw [if_pos c13] at H
           have LMc13 := Aside0.mk c13
           clear c13
           obtain ⟨y113, hy113⟩ : ∃ y_ : List (S74), y_ = (x7_1 ++ [(⟨(rd_T74 l1 (rd (rd_L3 l0_1 a2) x16_1)).f0, (rd_T74 l1 (rd (rd_L3 l0_1 a2) x16_1)).f1⟩ : S74)]) := ⟨_, rfl⟩
           replace H : (flow_network_below.l0 k1 l1 y113 (rd_L3 l0_1 a2) ((rd_L3 l0_1 a2).length : Int) (wrap64 (x16_1 + 1))) = some r := by first | (rw [hy113]; with_reducible exact H) | (have H2_ := (Option.bind_some _ _).symm.trans H; rw [hy113]; with_reducible exact H2_) | (have H2_ := (Option.bind_some _ _).symm.trans H; with_reducible exact H2_) | with_reducible exact H | (rw [hy113]; exact H) | exact H
           have Ny113 := Aside0.mk hy113
           clear hy113
           have H' := Aside0.mk H
           clear H
           have p111 : 0 ≤ (x16_1 : Int) := od_
           have q111 : x16_1 < ((rd_L3 l0_1 a2).length : Int) := od_
           obtain ⟨ad111, e111, hx111_0⟩ := Kd.at_int HR110_0.out x16_1 p111 q111
           cases e111
           replace hx111_0 := (HB.out.cell (World.block_lt_of_cell? w _ hx111_0)).trans hx111_0
           replace p111 := eq_true p111
           replace q111 := eq_true q111
           have p112 : 0 ≤ ((rd (rd_L3 l0_1 a2) x16_1) : Int) := od_
           have q112 : (rd (rd_L3 l0_1 a2) x16_1) < (l1.length : Int) := od_
           obtain ⟨ad112, e112, hx112_0, hx112_1⟩ := at_T74 HR1.out (rd (rd_L3 l0_1 a2) x16_1) p112 q112
           cases e112
           replace hx112_0 := (HB.out.cell (World.block_lt_of_cell? w _ hx112_0)).trans hx112_0
           replace hx112_1 := (HB.out.cell (World.block_lt_of_cell? w _ hx112_1)).trans hx112_1
           replace p112 := eq_true p112
           replace q112 := eq_true q112
           go_wp2_with (first | ((with_reducible refine gate_builtin (b := .append) (xs := #[.tmp 20, .tmp 25]) rfl ?_); at_builtin; refine Kd.R_append k74 (w0 := w) w.heap.size rfl (.tmp 20) (.tmp 25) 71 74 (.agg #[(.int .i64 0), (.int .i64 0)]) 16 rfl Try.underlying71 info74 rfl (by decide) (by omega) u7 x7_1 (⟨(rd_T74 l1 (rd (rd_L3 l0_1 a2) x16_1)).f0, (rd_T74 l1 (rd (rd_L3 l0_1 a2) x16_1)).f1⟩ : S74) [.int .i64 ((rd_T74 l1 (rd (rd_L3 l0_1 a2) x16_1)).f0), .int .i64 ((rd_T74 l1 (rd (rd_L3 l0_1 a2) x16_1)).f1)] (fun _ => True) (fun _ => False) rfl rfl ?aP (fun _ hk => hk.elim) ?aF ?aO ?aB ?aS ?aL ?_; (case aP => exact k74_mkM _ _ _ (⟨(rd_T74 l1 (rd (rd_L3 l0_1 a2) x16_1)).f0, (rd_T74 l1 (rd (rd_L3 l0_1 a2) x16_1)).f1⟩ : S74)); (case aB => exact (bs_ HB GE109.out)); (case aF => exact (fun _ _ => trivial)); (case aO => exact (rr_ HO_7)); (case aS => exact (below_size (bs_ HB GE109.out))); (case aL => have := LMc13.out; omega); intro v114 w14 ho hb hg hat; rw [← Ny113.out] at ho; have n0_ := Aside0.mk (blk_grown (g := gb109) (o := .cells #[.slice A0_0 l0_0.length c0_0, .slice (some ad110) l0_1.length c0_1] 67 (0, 0)) (kk_ BK109) hg (Kd.R_ne HO_7.out BK109.out (by decide))); have n1_ := Aside0.mk (hb); have n2_ := Aside0.mk (ho); clear BK109; clear HB; clear HO_7; have BK109 := n0_; have HB := n1_; have HO115 := n2_; clear n0_ n1_ n2_; clear ho hb hg hat))
           go_roundg k1
           case measure => have := HK1.out; omega
           case rel => exact ⟨(y113), (wrap64 (x16_1 + 1)), sd_, H', ⟨by have := HK1.out; omega⟩, ⟨by (with_reducible repeat (first | apply Kd.R_alloc | apply Kd.R_drewN | apply Kd.R_drew)); exact HO115.out⟩, ⟨by (with_reducible repeat (first | refine blk_drewN ?_ _ | refine blk_drew ?_ | refine blk_alloc ?_ _)); exact BK109.out⟩, ⟨by repeat (first | (with_reducible first | exact HB.out | apply below_alloc | apply pw_below_drewN | apply below_drew1 | refine below_set ?_ GE109.out) | exact HB.out)⟩⟩
          ·rw [if_neg c13] at H
           exact absurd H (by simp)
         ·rw [if_neg c12] at H
          exact absurd H (by simp)
        ·rw [if_neg c11] at H
         exact absurd H (by simp)
       ·rw [if_neg c10] at H
        exact absurd H (by simp)
      ·rw [if_neg c9] at H
       exact absurd H (by simp)
     ·rw [if_neg c8] at H
      have c8b0 : decide (x16_1 < ((rd_L3 l0_1 a2).length : Int)) = false := decide_eq_false c8
      clear c8
      obtain rfl := Option.some.inj H
      go_wp2
      go_ret
      exact ⟨_, ew_, by (with_reducible repeat (first | apply Kd.R_alloc | apply Kd.R_drewN | apply Kd.R_drew)); exact HO_7.out, by repeat (first | (with_reducible first | exact HB.out | apply below_alloc | apply pw_below_drewN | apply below_drew1 | refine below_set ?_ GE109.out) | exact HB.out)⟩
  ·rw [if_neg c5] at H
   exact absurd H (by simp)
 ·rw [if_neg c4] at H
  exact absurd H (by simp)
end
section
open Go.Proofs.YtolmjhpapidmhaaH
def belowI (kids : List (List Int)) (r : List S74) (i : Int) : List S74 := (rdK kids i).map (fun k => rd_T74 r k)
def cutI (x : S74) (lo hi : Int) : S74 := ⟨mx x.f0 lo, mn x.f1 hi⟩
def upStep (l : List S44) (kids : List (List Int)) (r : List S74) (i : Int) : List S74 :=
 if 0 < (belowI kids r i).length then r.set i.toNat (cutI (rd_T74 r i) (totalF S74.f0 (belowI kids r i)) (wrap64 (totalF S74.f1 (belowI kids r i) + (rd_T44 l i).f2))) else r
def KidsOk (kids : List (List Int)) (n : Nat) : Prop := kids.length = n ∧ ∀ i, (rdK kids i).length ≤ n ∧ ∀ j ∈ rdK kids i, 0 ≤ j ∧ j < n
def downTo (n k : Nat) : List Nat := (List.range k).map (fun j => n - 1 - j)
theorem downTo_succ (n k : Nat) : downTo n (k + 1) = downTo n k ++ [n - 1 - k] := by simp [downTo, List.range_succ]
theorem downTo_length (n k : Nat) : (downTo n k).length = k := by simp [downTo]
abbrev Ix (l : List S44) := { j : Nat // j < l.length }
def encIx (l : List S44) (x : Ix l) : Array Value := #[.int .i64 (x.1 : Int), .agg #[.int .i64 (rd_T44 l x.1).f0, .int .i64 (rd_T44 l x.1).f1, .int .i64 (rd_T44 l x.1).f2]]
theorem backward_calls (A0 : Option Addr) (n c : Nat) (w : World) :
  Calls Try.prog 63 #[.slice A0 n c] w fun e w' => e = .returned (.func (.func 71) #[] #[.pointer (some ⟨w.heap.size, 0, none⟩)]) ∧ w' = w.alloc (.cells #[.slice A0 n c] 22) := by
 go_enter Try.func63, Try.ntmps63
 go_wp2
 go_ret
 exact ⟨rfl, rfl⟩
theorem below_l0 (r : List S74) (ks : List Int) (hks : ∀ j ∈ ks, 0 ≤ j ∧ j < (r.length : Int)) (hlen : ks.length ≤ 8796093022207) : ∀ (d : Nat) (k : Nat) (acc : List S74) (x : Int), 0 ≤ x → x + d = ks.length → d < k → acc.length = x.toNat →
  flow_network_below.l0 k r acc ks (ks.length : Int) x = some (acc ++ (ks.drop x.toNat).map (fun j => rd_T74 r j)) := by
 intro d
 induction d with
 | zero =>
  intro k acc x h0 hd hk ha
  obtain ⟨k, rfl⟩ : ∃ m, k = m + 1 := ⟨k - 1, by omega⟩
  simp only [flow_network_below.l0]
  rw [if_neg (by omega), List.drop_of_length_le (by omega)]
  simp
 | succ d ih =>
  intro k acc x h0 hd hk ha
  obtain ⟨k, rfl⟩ : ∃ m, k = m + 1 := ⟨k - 1, by omega⟩
  have hx : x.toNat < ks.length := by omega
  have hrd : rd ks x = ks[x.toNat] := by simp [rd, List.getD_eq_getElem?_getD, hx]
  have hm := hks _ (List.getElem_mem hx)
  simp only [flow_network_below.l0]
  rw [if_pos (by omega), if_pos h0, if_pos (by omega), hrd, if_pos hm.1, if_pos hm.2, if_pos (by omega)]
  have hw : wrap64 (x + 1) = x + 1 := by unfold wrap64; omega
  rw [hw, ih k _ (x + 1) (by omega) (by omega) (by omega) (by simp; omega)]
  have e : (x + 1).toNat = x.toNat + 1 := by omega
  rw [e, List.drop_eq_getElem_cons hx, List.map_cons, List.append_assoc]
  rfl
theorem below_f (l : List S44) (kids : List (List Int)) (r : List S74) (i : Int) (h0 : 0 ≤ i) (h1 : i < kids.length) (hr : r.length = kids.length) (hk : KidsOk kids kids.length) (hn : kids.length ≤ 5864062014805) :
  flow_network_below.f (kids.length + 1) l kids r i = some (belowI kids r i) := by
 unfold flow_network_below.f
 rw [if_pos h0, if_pos h1]
 have h2 := hk.2 i
 have := below_l0 r (rdK kids i) (by rw [hr]; exact h2.2) (by omega) (rdK kids i).length (kids.length + 1) [] 0 (by omega) (by omega) (by omega) rfl
 exact this
theorem below_calls (A0 : Option Addr) (n0 c0 : Nat) (l : List S44) (A2 : Option Addr) (n2 c2 : Nat) (kids : List (List Int)) (A1 : Option Addr) (n1 c1 : Nat) (r : List S74) (i : Int) (w : World)
  (e0 : n0 = l.length) (e2 : n2 = kids.length) (e1 : n1 = r.length) (hr0 : Kd.C k44 w A0 l.length l) (hc0 : l.length ≤ c0) (hr2 : Kd.C (Kd.slice 3 (Kd.int .i64)) w A2 kids.length kids) (hc2 : kids.length ≤ c2) (hr1 : Kd.C k74 w A1 r.length r) (hc1 : r.length ≤ c1)
  (h0 : 0 ≤ i) (h1 : i < kids.length) (hr : r.length = kids.length) (hk : KidsOk kids kids.length) (hn : kids.length ≤ 5864062014805) :
  Calls Try.prog 64 #[.agg #[.slice A0 n0 c0, .slice A2 n2 c2], .slice A1 n1 c1, .int .i64 i] w fun e w' => ∃ A c, e = .returned (.slice A (belowI kids r i).length c) ∧ Kd.R k74 74 w' w.heap.size (fun _ => True) (.slice A (belowI kids r i).length c) (belowI kids r i) ∧ Below w.heap.size w w' := by
 subst e0 e1 e2
 refine (flow_network_below.calls _ A0 c0 l A2 c2 kids A1 c1 r i _ w hr0 hc0 hr2 hc2 hr1 hc1 (below_f l kids r i h0 h1 hr hk hn)).mono ?_
 rintro e w' ⟨v, he, hR, hb⟩
 obtain ⟨A, c, rfl⟩ := Kd.R_slice hR
 exact ⟨A, c, he, hR, hb⟩
theorem iv_elem {W : World} {base g n cap : Nat} {xs : List S74} (h : Kd.R k74 74 W base (fun _ => True) (.slice (some ⟨g, 0, none⟩) n cap) xs) (i : Int) (h0 : 0 ≤ i) (h1 : i < n) :
  (W.cell? ⟨g, i.toNat * 2, none⟩ = some (.int .i64 (rd_T74 xs i).f0) ∧ W.cell? ⟨g, i.toNat * 2 + 1, none⟩ = some (.int .i64 (rd_T74 xs i).f1)) ∧ (W.frozen? ⟨g, i.toNat * 2, none⟩ = false ∧ W.frozen? ⟨g, i.toNat * 2 + 1, none⟩ = false) ∧
   ∀ y : S74, Kd.R k74 74 ((W.setCell ⟨g, i.toNat * 2, none⟩ (.int .i64 y.f0)).setCell ⟨g, i.toNat * 2 + 1, none⟩ (.int .i64 y.f1)) base (fun _ => True) (.slice (some ⟨g, 0, none⟩) n cap) (xs.set i.toNat y) ∧
    W.grownBy ((W.setCell ⟨g, i.toNat * 2, none⟩ (.int .i64 y.f0)).setCell ⟨g, i.toNat * 2 + 1, none⟩ (.int .i64 y.f1)) (some g) := by
 obtain ⟨c, hcl, hM, hcc, hfr⟩ := Kd.R_elem h z74 i h0 h1
 obtain rfl := k74_openM hM
 have e : k74.sz = 2 := rfl
 refine ⟨⟨hcc 0 _ rfl, hcc 1 _ rfl⟩, ⟨hfr 0, hfr 1⟩, fun y => ?_⟩
 exact Kd.R_seg h i h0 h1 hcl hcc (seg := [.int .i64 y.f0, .int .i64 y.f1]) (j := 0) (show 0 + 2 ≤ 2 from Nat.le_refl _) (x' := y) (okp := fun _ => False) (k74_mkM _ _ _ y) (fun _ hk => hk.elim)
theorem upStep_len (l : List S44) (kids : List (List Int)) (r : List S74) (i : Int) : (upStep l kids r i).length = r.length := by
 unfold upStep
 split <;> simp
theorem upFold_len (l : List S44) (kids : List (List Int)) (js : List Nat) : ∀ (r : List S74), (js.foldl (fun r (j : Nat) => upStep l kids r j) r).length = r.length := by
 induction js with
 | nil => intro r; rfl
 | cons j js ih => intro r; rw [List.foldl_cons, ih, upStep_len]
attribute [local go_sem] Oper.semAt_some
set_option maxHeartbeats 4000000 in
theorem back1_in (n : Nat) (hn : 1 ≤ n) (lr Bn n0 : Nat) (A0 : Option Addr) (c0 : Nat) (l : List S44) (hsz : l.length ≤ 5864062014805) (J Jx : List (Ix l) → World → Prop)
  (hY : ∀ pre x W, J pre W → pre.length < l.length → YieldAt Fence.wide (n - 1) Try.prog lr (encIx l x) W fun e W' =>
   (e = .returned (.bool true) ∧ J (pre ++ [x]) W' ∧ KeepIt n0 Bn W W') ∨ (e = .returned (.bool false) ∧ Jx (pre ++ [x]) W'))
  (W : World) (hBn : W.heap[Bn]? = some (.cells #[.slice A0 l.length c0] 22 (0, 0))) (hC : ∀ W', Below n0 W W' → Kd.C k44 W' A0 l.length l) (h0 : J [] W) :
  CallsIn Fence.wide n Try.prog 71 #[.func (.yield lr) #[] #[], .pointer (some ⟨Bn, 0, none⟩)] W fun e W' => (∃ v, e = .returned v) ∧
   ((∃ xs : List (Ix l), xs.map (·.1) = downTo l.length l.length ∧ J xs W') ∨ (∃ pre, True ∧ Jx pre W')) := by
 refine callsIn_of_wp Try.func71 rfl trivial ?_ rfl
 simp only [Try.ntmps71, List.size_toArray, List.length_cons, List.length_nil, Nat.reduceAdd, Nat.reduceSub, Array.replicate_succ, Array.replicate_zero, List.push_toArray, List.append_toArray, List.nil_append, List.cons_append]
 have hc0 : W.cell? ⟨Bn, 0, none⟩ = some (.slice A0 l.length c0) := (blk_cell hBn 0).trans rfl
 have HSZ := Aside0.mk hsz
 have HC := Aside0.mk hC
 have HY := Aside0.mk hY
 have HBN := Aside0.mk hBn
 have H0 := Aside0.mk h0
 clear hsz hC hY hBn h0
 have hq1 : (l.length : Int) - 1 ≤ 9223372036854775807 := by have := HSZ.out; omega
 have hq2 : -9223372036854775808 ≤ (l.length : Int) - 1 := by omega
 gi_wp2
 gi_loopw [3] (fun i wr => ∃ (k : Nat) (pre : List (Ix l)), k ≤ l.length ∧ i = .int .i64 ((l.length : Int) - 1 - k) ∧ Aside0 (pre.map (·.1) = downTo l.length k) ∧ Aside0 (J pre wr) ∧ Aside0 (KeepIt n0 Bn W wr))
  (fun i _ => (intOf i + 1).toNat)
 case atStart => exact ⟨0, [], Nat.zero_le _, by simp, ⟨by simp [downTo]⟩, H0, ⟨⟨Below.refl _ _, rfl⟩⟩⟩
 case round =>
  clear hc0 H0
  obtain ⟨k, pre, hk, rfl, HP, HJ, HK⟩ := hrel
  have hc0 : wr.cell? ⟨Bn, 0, none⟩ = some (.slice A0 l.length c0) := (blk_cell (HK.out.2.trans HBN.out) 0).trans rfl
  by_cases hlt : k < l.length
  ·obtain ⟨i, hi⟩ : ∃ i : Int, i = (l.length : Int) - 1 - k := ⟨_, rfl⟩
   rw [← hi]
   have hi0 : 0 ≤ i := by omega
   have hi1 : i < l.length := by omega
   obtain ⟨xi, hti⟩ : ∃ xi : Ix l, (xi.1 : Int) = i := ⟨⟨i.toNat, by omega⟩, by show ((i.toNat : Nat) : Int) = i; omega⟩
   obtain ⟨fn, tmps, assign, body, hy, hR⟩ := HY.out pre xi wr HJ.out (by have := congrArg List.length HP.out; rw [List.length_map, downTo_length] at this; omega)
   simp only [encIx, hti] at hy
   have HTI := Aside0.mk hti
   obtain ⟨ad, e, hx0, hx1, hx2⟩ := at_T44 (HC.out wr HK.out.1) i hi0 hi1
   have HI := Aside0.mk hi
   have HR := Aside0.mk hR
   have HL := Aside0.mk (And.intro hi0 (And.intro hi1 hlt))
   have c1 : decide (0 ≤ i) = true := decide_eq_true hi0
   have c2 : (0 ≤ i) = True := eq_true hi0
   have c3 : (i < l.length) = True := eq_true hi1
   have hb1 : i - 1 ≤ 9223372036854775807 := by have := HSZ.out; omega
   have hb2 : -9223372036854775808 ≤ i - 1 := by omega
   clear hi hR hi0 hi1 hlt hti hk
   subst e
   gi_wp2
   refine HR.out.mono ?_
   rintro e W3 (⟨rfl, hJ3, hk3⟩ | ⟨rfl, hJx3⟩)
   ·have HJ3 := Aside0.mk hJ3
    have HK3 := Aside0.mk hk3
    clear hJ3 hk3
    gi_wp2
    go_roundw
    case rel =>
     refine ⟨k + 1, _, ?_, ?_, ⟨?_⟩, HJ3, ⟨keepIt_t HK.out HK3.out⟩⟩
     ·have := HL.out; omega
     ·have := HI.out; first | (rw [show i - 1 = (l.length : Int) - 1 - ((k + 1 : Nat) : Int) from by omega]; done) | (simp; omega)
     ·rw [List.map_append, HP.out, downTo_succ]
      have h1 := HTI.out
      have h2 := HI.out
      have h3 := HL.out
      simp only [List.map_cons, List.map_nil]
      congr 2
      omega
    case measure => have := HL.out; simp [intOf]; omega
   ·gi_wp2
    refine bodyPost_ret (results_none rfl _ _ _) rfl ?_
    exact ⟨⟨_, rfl⟩, .inr ⟨_, trivial, hJx3⟩⟩
  ·obtain ⟨i, hi⟩ : ∃ i : Int, i = (l.length : Int) - 1 - k := ⟨_, rfl⟩
   rw [← hi]
   have c1 : decide (0 ≤ i) = false := decide_eq_false (by omega)
   have HKL := Aside0.mk (show k = l.length by omega)
   clear hlt hk hi
   gi_wp2
   go_end0
   exact ⟨⟨_, rfl⟩, .inl ⟨pre, by rw [HP.out, HKL.out], HJ.out⟩⟩
theorem back_stops (n : Nat) (hn : 1 ≤ n) (Bn n0 : Nat) (A0 : Option Addr) (c0 : Nat) (l : List S44) (hsz : l.length ≤ 5864062014805) (w : World) (hBn : w.heap[Bn]? = some (.cells #[.slice A0 l.length c0] 22 (0, 0))) (hC : ∀ W', Below n0 w W' → Kd.C k44 W' A0 l.length l) (hn0 : n0 ≤ w.heap.size) :
  SeqStopsK Fence.wide n Try.prog 71 #[.pointer (some ⟨Bn, 0, none⟩)] (encIx l) (KeepIt n0 Bn) (fun xs => xs.map (·.1) = downTo l.length l.length) (fun _ => True) l.length w := by
 intro lr J Jx W hW _ _ hY h0
 refine back1_in n hn lr Bn n0 A0 c0 l hsz J Jx hY W (blk_below hBn hW) (fun W' h => hC W' ((hW.mono hn0).trans h)) h0
theorem up_calls (w0 w : World) (A0 : Option Addr) (c0 : Nat) (l : List S44) (A2 : Option Addr) (c2 : Nat) (kids : List (List Int)) (A1 : Option Addr) (c1 : Nat) (xs : List S74)
  (hB : Below w0.heap.size w0 w) (hr0 : Kd.C k44 w0 A0 l.length l) (hc0 : l.length ≤ c0) (hsz : l.length ≤ 5864062014805)
  (hk : Kd.S (Kd.slice 3 (Kd.int .i64)) 26 w w0.heap.size (fun _ => True) (.slice A2 l.length c2) kids) (hkids : KidsOk kids l.length)
  (hr : Kd.R k74 74 w w0.heap.size (fun _ => True) (.slice A1 l.length c1) xs) (hxl : xs.length = l.length) :
  Calls Try.prog 53 #[.agg #[.slice A0 l.length c0, .slice A2 l.length c2], .slice A1 l.length c1] w fun e w' => e = .returned (.tuple #[]) ∧
   Kd.R k74 74 w' w0.heap.size (fun _ => True) (.slice A1 l.length c1) ((downTo l.length l.length).foldl (fun r (j : Nat) => upStep l kids r j) xs) ∧ w.grownBy w' (Value.slice A1 l.length c1).ownBlock := by
 refine (callsIn_wide (n := 5)).1 ?_
 refine callsIn_of_wp_marks Try.func53 rfl trivial ?_ rfl
 simp only [Try.ntmps53, List.size_toArray, List.length_cons, List.length_nil, Nat.reduceAdd, Nat.reduceSub, Array.replicate_succ, Array.replicate_zero, List.push_toArray, List.append_toArray, List.nil_append, List.cons_append]
 have hu67 := Try.underlying67
 obtain ⟨g2, hg2⟩ : ∃ g2, w.heap.size = g2 := ⟨_, rfl⟩
 have HB := Aside0.mk hB
 have HR0 := Aside0.mk hr0
 have HSZ := Aside0.mk hsz
 have HK := Aside0.mk hk
 have HKO := Aside0.mk hkids
 have HR := Aside0.mk hr
 have HXL := Aside0.mk hxl
 clear hB hr0 hsz hk hkids hr hxl
 gi_wp2_with (refine ⟨trivial, ?_⟩; gi_at_call 63; refine (callsIn_wide.2 (backward_calls _ _ _ _)).mono ?_; rintro e w' ⟨rfl, rfl⟩)
 obtain ⟨W3, hW3⟩ : ∃ W3, W3 = ((w.alloc (Obj.cells #[Value.slice A0 l.length c0, Value.slice A2 l.length c2] 67)).alloc (Obj.cells #[Value.slice A1 l.length c1] 71)).alloc (Obj.cells #[Value.slice A0 l.length c0] 22) := ⟨_, rfl⟩
 rw [← hW3]
 have hB3 : Below w.heap.size w W3 := by rw [hW3]; exact (((Below.refl _ w).alloc (Nat.le_refl _) _).alloc (by simp) _).alloc (by simp; omega) _
 have hs3 : W3.heap.size = g2 + 3 := by rw [hW3, ← hg2]; simp
 have b2 : W3.heap[g2]? = some (.cells #[.slice A0 l.length c0, .slice A2 l.length c2] 67 (0, 0)) := by rw [hW3, ← hg2]; exact blk_alloc (blk_alloc (blk_new w _) _) _
 have b3 : W3.heap[g2 + 1]? = some (.cells #[.slice A1 l.length c1] 71 (0, 0)) := by rw [hW3, ← hg2]; have := blk_alloc (blk_new (w.alloc (Obj.cells #[Value.slice A0 l.length c0, Value.slice A2 l.length c2] 67)) (Obj.cells #[Value.slice A1 l.length c1] 71)) (Obj.cells #[Value.slice A0 l.length c0] 22); rwa [World.size_alloc] at this
 have b4 : W3.heap[g2 + 1 + 1]? = some (.cells #[.slice A0 l.length c0] 22 (0, 0)) := by rw [hW3, ← hg2]; have := blk_new ((w.alloc (Obj.cells #[Value.slice A0 l.length c0, Value.slice A2 l.length c2] 67)).alloc (Obj.cells #[Value.slice A1 l.length c1] 71)) (Obj.cells #[Value.slice A0 l.length c0] 22); rwa [World.size_alloc, World.size_alloc] at this
 have HGO := Aside0.mk (show ∀ k, (Value.slice A1 l.length c1).ownBlock = some k → w0.heap.size ≤ k from fun k hk => by obtain ⟨inner, ho⟩ := Kd.R_own HR.out; exact own_base ho k hk)
 have hsw := HB.out.size
 clear hW3
 refine wpIn_rangeFunc_ownG rfl (by omega) (gf := 71) (lb := #[.pointer (some ⟨g2 + 1 + 1, 0, none⟩)]) rfl trivial (enters_fn Try.func71 (by kernel_rfl) rfl)
  (back_stops 4 (by omega) (g2 + 1 + 1) w0.heap.size A0 c0 l HSZ.out W3 b4 (fun W' h => Kd.C_below HR0.out ((HB.out.trans (hB3.mono HB.out.size)).trans h)) (by omega)) keepIt_t (keepIt_b (by omega) (by omega)) (Below.refl _ _) (fun _ => rfl)
  (fun pre W => (W.heap[g2]? = some (.cells #[.slice A0 l.length c0, .slice A2 l.length c2] 67 (0, 0)) ∧ W.heap[g2 + 1]? = some (.cells #[.slice A1 l.length c1] 71 (0, 0)) ∧ W.heap[g2 + 1 + 1]? = some (.cells #[.slice A0 l.length c0] 22 (0, 0)))
   ∧ Kd.R k74 74 W w0.heap.size (fun _ => True) (.slice A1 l.length c1) ((pre.map (·.1)).foldl (fun r (j : Nat) => upStep l kids r j) xs)
   ∧ Kd.S (Kd.slice 3 (Kd.int .i64)) 26 W w0.heap.size (fun _ => True) (.slice A2 l.length c2) kids ∧ w.grownBy W (Value.slice A1 l.length c1).ownBlock)
  (fun _ _ _ => False)
  (fun s A B row hs hg hr => by
   have hr' : ∀ r, row = some r → ∃ o : Obj, A.heap[r]? = some o ∧ o.isCells = false := fun r e => (hr r e).2
   exact ⟨⟨blk_objs hs.1.1 hg hr', blk_objs hs.1.2.1 hg hr', blk_objs hs.1.2.2 hg hr'⟩, R_objs hs.2.1 hg hr', S_objs hs.2.2.1 hg hr', grown_from hs.2.2.2 hg (fun r e => by have := (hr r e).1; omega)⟩)
  (fun _ _ _ _ _ hs _ _ => hs)
  ⟨⟨b2, b3, b4⟩, Kd.R_below HR.out hB3, Kd.S_below HK.out hB3, grown_of_below hB3 _⟩
  (fun x => { tmps := #[.agg #[.slice A0 l.length c0, .slice A2 l.length c2], .slice A1 l.length c1, .pointer (some ⟨g2, 0, none⟩), .pointer (some ⟨g2 + 1, 0, none⟩), .int .i64 (x.1 : Int), undef,
   .pointer (some ⟨g2, 0, none⟩), .slice A0 l.length c0, .func (.func 71) #[] #[.pointer (some ⟨g2 + 1 + 1, 0, none⟩)], .int .i64 (x.1 : Int), .agg #[.int .i64 (rd_T44 l x.1).f0, .int .i64 (rd_T44 l x.1).f1, .int .i64 (rd_T44 l x.1).f2],
   undef, undef, undef, undef, undef, undef, undef, undef, undef, undef, undef, undef, undef, undef, undef, undef, undef, undef, undef, undef, undef, undef, undef, undef, undef, undef], defers := [] }) ?assign ?body ?done ?stop
 case assign =>
  intro lr x W K hK
  simp only [encIx]
  gi_wp2
  exact hK
 case done =>
  rintro D ys W hD hys ⟨hb, hRR, hSS, hG⟩ hDD
  gi_wp2
  refine ⟨by simp, .inl ⟨_, _, rfl, run_takeDeferred hDD, ?_⟩⟩
  have hobj : ∀ r, some D = some r → ∃ o : Obj, W.heap[r]? = some o ∧ o.isCells = false := fun r e => by cases e; exact ⟨_, hDD, rfl⟩
  refine ⟨_, results_none rfl _ _ _, rfl, ?_, grown_from hG (grownBy_putObj' W D (.deferred none)) (fun k e => by cases e; omega)⟩
  rw [hys] at hRR
  exact R_objs hRR (grownBy_putObj' W D (.deferred none)) hobj
 case stop =>
  rintro D c pre W _ _ h _
  exact h.elim
 case body =>
  rintro lr pre x W ⟨⟨hb2, hb3, hb4⟩, hRR, hSS, hG⟩ hlen
  obtain ⟨r, hr⟩ : ∃ r, r = (pre.map (·.1)).foldl (fun r (j : Nat) => upStep l kids r j) xs := ⟨_, rfl⟩
  rw [← hr] at hRR
  have hrl : r.length = l.length := by rw [hr, upFold_len, HXL.out]
  have HRN := Aside0.mk hr
  have hBW := grown_below HB.out hG HGO.out
  have hC0 := Kd.C_below HR0.out hBW
  have hSr := Kd.S_reads' hSS
  have hRr := Kd.R_reads' hRR
  obtain ⟨i, hi⟩ : ∃ i : Int, i = (x.1 : Int) := ⟨_, rfl⟩
  have hi0 : 0 ≤ i := by omega
  have hi1 : i < l.length := by have := x.2; omega
  obtain ⟨bl, hbl⟩ : ∃ bl, bl = belowI kids r i := ⟨_, rfl⟩
  have hc20 : W.cell? ⟨g2, 0, none⟩ = some (.slice A0 l.length c0) := (blk_cell hb2 0).trans rfl
  have hc21 : W.cell? ⟨g2, 1, none⟩ = some (.slice A2 l.length c2) := (blk_cell hb2 1).trans rfl
  have hc30 : W.cell? ⟨g2 + 1, 0, none⟩ = some (.slice A1 l.length c1) := (blk_cell hb3 0).trans rfl
  have HCALL := Aside0.mk (below_calls A0 l.length c0 l A2 l.length c2 kids A1 l.length c1 r i W rfl hSr.1 hrl.symm hC0 hc0 hSr.2.2 (hSr.1 ▸ hSr.2.1) hRr.2.2 (hrl ▸ hRr.2.1) hi0 (hSr.1 ▸ hi1) (hrl.trans hSr.1) (hSr.1 ▸ HKO.out) (hSr.1 ▸ HSZ.out))
  rw [← hbl] at HCALL
  have HBK := Aside0.mk (And.intro hb2 (And.intro hb3 hb4))
  have HRR := Aside0.mk hRR
  have HSS := Aside0.mk hSS
  have HG := Aside0.mk hG
  have HBW := Aside0.mk hBW
  have HC0 := Aside0.mk hC0
  have HI := Aside0.mk (And.intro hi0 (And.intro hi1 (And.intro hrl hi)))
  have HBL := Aside0.mk hbl
  have HSR := Aside0.mk hSr.1
  have HBLN := Aside0.mk (show bl.length ≤ 140737488355328 by rw [hbl]; unfold belowI; rw [List.length_map]; have := (HKO.out.2 i).1; have := HSZ.out; omega)
  rw [← hi]
  clear hb2 hb3 hb4 hRR hSS hG hr hrl hBW hC0 hSr hRr hi0 hi1 hi hbl
  by_cases hz : 0 < bl.length
  ·have z1 : decide (0 < (bl.length : Int)) = true := decide_eq_true (by omega)
   have z2 : decide (0 < bl.length) = true := decide_eq_true hz
   have HZ := Aside0.mk hz
   clear hz
   gi_wp2_with (refine ⟨trivial, ?_⟩; gi_at_call 64; refine (CallsIn.inRound lr (callsIn_wide.2 HCALL.out)).mono ?_; rintro e w1 ⟨Ab, cb, rfl, hRb, hb⟩; have HRB := Aside0.mk hRb; have HW1 := Aside0.mk hb; replace hc20 := (hb.cell (World.block_lt_of_cell? W _ hc20)).trans hc20; replace hc21 := (hb.cell (World.block_lt_of_cell? W _ hc21)).trans hc21; replace hc30 := (hb.cell (World.block_lt_of_cell? W _ hc30)).trans hc30; clear hRb hb)
   obtain ⟨g, cap, e1, gb1, gl1, gcl, hgcl⟩ := Kd.R_form HRR.out (by have := HI.out; omega)
   injection e1 with ea en ec
   subst ea
   subst ec
   have EN := Aside0.mk en
   have GB1 := Aside0.mk gb1
   have hR1 := Kd.R_below HRR.out HW1.out
   have hgcl1 := blk_below hgcl HW1.out
   have hR1d := Kd.R_drew hR1
   have hIV := iv_elem hR1d i HI.out.1 (by have := HI.out; omega)
   have hx0 := hIV.1.1
   have hx1 := hIV.1.2
   obtain ⟨ad, ead, _, _, hx4⟩ := at_T44 HC0.out i HI.out.1 HI.out.2.1
   subst ead
   replace hx4 := (HW1.out.cell (World.block_lt_of_cell? W _ hx4)).trans hx4
   have HR1 := Aside0.mk hR1
   have HGC := Aside0.mk hgcl1
   have ci2 : (0 ≤ i) = True := eq_true HI.out.1
   have ci3 : (i < l.length) = True := eq_true HI.out.2.1
   have hRBC := Aside0.mk (Kd.R_reads' HRB.out)
   have HGW := Aside0.mk hgcl
   clear en gb1 gl1 hgcl hR1 hR1d hgcl1 hIV
   refine start_R (m := 20) (S := fun w' => w'.cell? ⟨g2 + 1, 0, none⟩ = some (.slice (some ⟨g, 0, none⟩) l.length c1) ∧ w'.cell? ⟨g, i.toNat * 2, none⟩ = some (.int .i64 (rd_T74 r i).f0) ∧ w'.cell? ⟨g, i.toNat * 2 + 1, none⟩ = some (.int .i64 (rd_T74 r i).f1) ∧ w'.cell? ⟨g2, 0, none⟩ = some (.slice (some ad) l.length c0) ∧ w'.cell? ⟨(ad.add (i.toNat * 3)).block, (ad.add (i.toNat * 3)).off + 2, none⟩ = some (.int .i64 (rd_T44 l i).f2)) (ds := [19]) (by kernel_rfl) (by rintro ⟨_, _, h⟩; exact h) #[n_, n_, n_, n_, n_, n_, n_, n_, n_, n_, n_, n_, n_, n_, n_, n_, n_, n_, n_, n_] (by kernel_rfl) rfl rfl ⟨hc30, hx0, hx1, hc20, hx4⟩ (fun hHeld => ?_)
   refine pv_ 1 19 (w_ 20 2) rfl ?_
   refine pv_ 3 21 (w_ 20 10) rfl ?_
   refine pv_ 6 24 (w_ 20 74) rfl ?_
   refine pv_ 8 26 (w_ 20 330) rfl ?_
   refine pv_ 10 28 (w_ 20 1354) rfl ?_
   refine pv_ 12 30 (w_ 20 5450) rfl ?_
   refine tb_ 0 18 (w_ 20 5451) rfl hHeld (by rintro w' ⟨s0, s1, s2, s3, s4⟩; go_simp; with_reducible rfl) ?_
   refine tb_ 2 20 (w_ 20 5455) rfl hHeld (by rintro w' ⟨s0, s1, s2, s3, s4⟩; go_simp; with_reducible rfl) ?_
   refine pv_ 4 22 (w_ 20 5471) rfl ?_
   refine tb_ 5 23 (w_ 20 5503) rfl hHeld (by rintro w' ⟨s0, s1, s2, s3, s4⟩; go_simp; with_reducible rfl) ?_
   refine tb_ 11 29 (w_ 20 7551) rfl hHeld (by rintro w' ⟨s0, s1, s2, s3, s4⟩; go_simp; with_reducible rfl) ?_
   refine pv_ 13 31 (w_ 20 15743) rfl ?_
   refine pv_ 14 32 (w_ 20 32127) rfl ?_
   refine tb_ 15 33 (w_ 20 64895) rfl hHeld (by rintro w' ⟨s0, s1, s2, s3, s4⟩; go_simp; with_reducible rfl) ?_
   refine one_ (i := 7) (N := some 25) (w_ 20 65023) rfl rfl (by kernel_rfl) (by decide) (fun K hK => ?_)
   refine goes_ Try.func66 (by kernel_rfl) rfl #[.slice Ab bl.length cb, .func (.func 67) #[] #[]] (by rfl) rfl rfl (by simp only [List.map_toArray, List.map_cons, List.map_nil]; rfl) ?_
   with_reducible refine (flow_total_low Ab cb bl _ (Kd.C_below hRBC.out.2.2 (below_drew (Below.refl _ _))) hRBC.out.2.1 HBLN.out).mono ?_
   rintro e w3 ⟨rfl, hb⟩
   refine ⟨_, rfl, ?_⟩
   have HB3 := Aside0.mk (below_step (below_drew (Below.refl _ _)) hb)
   refine hK.out _ _ ⟨(hb.cell (World.block_lt_of_cell? _ _ hHeld.1)).trans hHeld.1, (hb.cell (World.block_lt_of_cell? _ _ hHeld.2.1)).trans hHeld.2.1, (hb.cell (World.block_lt_of_cell? _ _ hHeld.2.2.1)).trans hHeld.2.2.1, (hb.cell (World.block_lt_of_cell? _ _ hHeld.2.2.2.1)).trans hHeld.2.2.2.1, (hb.cell (World.block_lt_of_cell? _ _ hHeld.2.2.2.2)).trans hHeld.2.2.2.2⟩ (fun hHeld => ?_)
   clear hK K
   refine norm_ (a' := ?_) ?_ ?_
   rotate_left
   ·show Act.put _ (some 25) _ = _
    simp only [Act.put, sI_, s0_, sS_, i64_w, i32_w]
    rfl
   refine one_ (i := 9) (N := some 27) (w_ 20 65535) rfl rfl (by kernel_rfl) (by decide) (fun K hK => ?_)
   refine goes_ Try.func66 (by kernel_rfl) rfl #[.slice Ab bl.length cb, .func (.func 68) #[] #[]] (by rfl) rfl rfl (by simp only [List.map_toArray, List.map_cons, List.map_nil]; rfl) ?_
   with_reducible refine (flow_total_high Ab cb bl _ (Kd.C_below hRBC.out.2.2 HB3.out) hRBC.out.2.1 HBLN.out).mono ?_
   rintro e w4 ⟨rfl, hb⟩
   refine ⟨_, rfl, ?_⟩
   have HB4 := Aside0.mk (below_step HB3.out hb)
   refine hK.out _ _ ⟨(hb.cell (World.block_lt_of_cell? _ _ hHeld.1)).trans hHeld.1, (hb.cell (World.block_lt_of_cell? _ _ hHeld.2.1)).trans hHeld.2.1, (hb.cell (World.block_lt_of_cell? _ _ hHeld.2.2.1)).trans hHeld.2.2.1, (hb.cell (World.block_lt_of_cell? _ _ hHeld.2.2.2.1)).trans hHeld.2.2.2.1, (hb.cell (World.block_lt_of_cell? _ _ hHeld.2.2.2.2)).trans hHeld.2.2.2.2⟩ (fun hHeld => ?_)
   clear hK K
   refine norm_ (a' := ?_) ?_ ?_
   rotate_left
   ·show Act.put _ (some 27) _ = _
    simp only [Act.put, sI_, s0_, sS_, i64_w, i32_w]
    rfl
   refine pv_ 16 34 (w_ 20 131071) rfl ?_
   refine one_ (i := 17) (N := some 35) (w_ 20 262143) rfl rfl (by kernel_rfl) (by decide) (fun K hK => ?_)
   refine goes_ Try.func65 (by kernel_rfl) rfl #[.agg #[.int .i64 (rd_T74 r i).f0, .int .i64 (rd_T74 r i).f1], .int .i64 (totalF S74.f0 bl), .int .i64 (wrap64 (totalF S74.f1 bl + (rd_T44 l i).f2))] (by rfl) rfl rfl (by simp only [List.map_toArray, List.map_cons, List.map_nil]; rfl) ?_
   with_reducible refine (flow_interval_cut.calls _ _ _ _ _ _ _ rfl).mono ?_
   rintro e w5 ⟨rfl, hb⟩
   refine ⟨_, rfl, ?_⟩
   have HB5 := Aside0.mk (below_step HB4.out hb)
   have HIV5 := Aside0.mk (iv_elem (Kd.R_below HR1.out HB5.out) i HI.out.1 (by have := HI.out; omega))
   have hfz0 := HIV5.out.2.1.1
   have hfz1 := HIV5.out.2.1.2
   have hxz0 := HIV5.out.1.1
   have hxz1 := HIV5.out.1.2
   refine hK.out _ _ ⟨(hb.cell (World.block_lt_of_cell? _ _ hHeld.1)).trans hHeld.1, (hb.cell (World.block_lt_of_cell? _ _ hHeld.2.1)).trans hHeld.2.1, (hb.cell (World.block_lt_of_cell? _ _ hHeld.2.2.1)).trans hHeld.2.2.1, (hb.cell (World.block_lt_of_cell? _ _ hHeld.2.2.2.1)).trans hHeld.2.2.2.1, (hb.cell (World.block_lt_of_cell? _ _ hHeld.2.2.2.2)).trans hHeld.2.2.2.2⟩ (fun hHeld => ?_)
   clear hK K
   refine norm_ (a' := ?_) ?_ ?_
   rotate_left
   ·show Act.put _ (some 35) _ = _
    simp only [Act.put, sI_, s0_, sS_, i64_w, i32_w]
    rfl
   refine pv_ 18 36 (w_ 20 524287) rfl ?_
   refine last_ (i := 19) (N := none) (w_ 20 1048575) rfl rfl (by kernel_rfl) (by decide) (fun K hK => ?_)
   refine skip_ (w1 := ?_) (by rfl) rfl ?_ ?_
   rotate_left
   ·go_simp
    rfl
   refine hK.out _ _ ?_
   clear hK K
   refine done_ (by kernel_rfl) ?_
   have hP := HIV5.out.2.2 (cutI (rd_T74 r i) (totalF S74.f0 bl) (wrap64 (totalF S74.f1 bl + (rd_T44 l i).f2)))
   have hgW := grown_trans (grown_of_below HW1.out (some g)) (grown_trans (grown_of_below HB5.out (some g)) hP.2)
   have hown : (Value.slice (some ⟨g, 0, none⟩) l.length c1).ownBlock = some g := by simp [Value.ownBlock]
   obtain ⟨hb2, hb3, hb4⟩ := HBK.out
   have n2 : some g2 ≠ some g := by have := blk_ne hb2 HGW.out (by decide); simpa using this
   have n3 : some (g2 + 1) ≠ some g := by have := blk_ne hb3 HGW.out (by decide); simpa using this
   have n4 : some (g2 + 1 + 1) ≠ some g := by have := blk_ne hb4 HGW.out (by decide); simpa using this
   refine ⟨(KeepsOthers.of_grownBy hgW (fun j o ej ho => ?_)).from _, ⟨(Below.refl _ _).grown hgW HBW.out.size (fun k e => by cases e; exact GB1.out), hgW.block _ (blk_lt hb4) n4⟩, ⟨blk_grown hb2 hgW n2, blk_grown hb3 hgW n3, blk_grown hb4 hgW n4⟩, ?_, ?_, ?_⟩
   ·cases ej
    rw [HGW.out] at ho
    cases ho
    rfl
   ·rw [List.map_append, List.foldl_append, ← HRN.out]
    show Kd.R k74 74 _ w0.heap.size _ _ (upStep l kids r (x.1 : Int))
    unfold upStep
    rw [← HI.out.2.2.2, ← HBL.out, if_pos HZ.out]
    exact hP.1
   ·exact Kd.S_mono (Kd.S_grown (Kd.S_types HSS.out HGW.out (by decide)) hgW (fun k hk e => hk.2 (by cases e; rfl))) (fun _ hk => hk.1)
   ·rw [hown] at HG
    rw [hown]
    exact grown_trans HG.out hgW
  ·have z1 : decide (0 < (bl.length : Int)) = false := decide_eq_false (by omega)
   have z2 : decide (0 < bl.length) = false := decide_eq_false hz
   have HZ := Aside0.mk hz
   clear hz
   gi_wp2_with (refine ⟨trivial, ?_⟩; gi_at_call 64; refine (CallsIn.inRound lr (callsIn_wide.2 HCALL.out)).mono ?_; rintro e w1 ⟨Ab, cb, rfl, hRb, hb⟩; have HRB := Aside0.mk hRb; have HW1 := Aside0.mk hb; clear hRb hb)
   have hb := HW1.out
   have hg := grown_of_below hb (none : Option Nat)
   obtain ⟨hb2, hb3, hb4⟩ := HBK.out
   refine ⟨(KeepsOthers.of_grownBy hg (by simp)).from _, ⟨hb.mono HBW.out.size, hb.block _ (blk_lt hb4)⟩, ⟨blk_below hb2 hb, blk_below hb3 hb, blk_below hb4 hb⟩, ?_, Kd.S_below HSS.out hb, grown_then HG.out hb⟩
   rw [List.map_append, List.foldl_append, ← HRN.out]
   show Kd.R k74 74 w1 w0.heap.size _ _ (upStep l kids r (x.1 : Int))
   unfold upStep
   rw [← HI.out.2.2.2, ← HBL.out, if_neg HZ.out]
   exact Kd.R_below HRR.out hb
end
section
open Go.Proofs.YtolmjhpapidmhaaH
def downCut (l : List S44) (i : Int) (lo hi : Int) (r : List S74) (k : Int) : List S74 :=
 r.set k.toNat (cutI (rd_T74 r k) (wrap64 (wrap64 ((rd_T74 r i).f0 - (rd_T44 l i).f2) - wrap64 (hi - (rd_T74 r k).f1))) (wrap64 ((rd_T74 r i).f1 - wrap64 (lo - (rd_T74 r k).f0))))
def downStep (l : List S44) (kids : List (List Int)) (r : List S74) (i : Int) : List S74 :=
 (rdK kids i).foldl (downCut l i (totalF S74.f0 (belowI kids r i)) (totalF S74.f1 (belowI kids r i))) r
theorem downCut_len (l : List S44) (i lo hi : Int) (r : List S74) (k : Int) : (downCut l i lo hi r k).length = r.length := by simp [downCut]
theorem downCuts_len (l : List S44) (i lo hi : Int) (ks : List Int) : ∀ r : List S74, (ks.foldl (downCut l i lo hi) r).length = r.length := by
 induction ks with
 | nil => intro r; rfl
 | cons j js ih => intro r; rw [List.foldl_cons, ih, downCut_len]
theorem downStep_len (l : List S44) (kids : List (List Int)) (r : List S74) (i : Int) : (downStep l kids r i).length = r.length := downCuts_len _ _ _ _ _ _
theorem downFold_len (l : List S44) (kids : List (List Int)) (js : List Nat) : ∀ (r : List S74), (js.foldl (fun r (j : Nat) => downStep l kids r j) r).length = r.length := by
 induction js with
 | nil => intro r; rfl
 | cons j js ih => intro r; rw [List.foldl_cons, ih, downStep_len]
def downF (l : List S44) (kids : List (List Int)) (r : List S74) : List S74 := (List.range l.length).foldl (fun r (j : Nat) => downStep l kids r j) r
def upF (l : List S44) (kids : List (List Int)) (r : List S74) : List S74 := (downTo l.length l.length).foldl (fun r (j : Nat) => upStep l kids r j) r
theorem foldl_range_succ {β : Type} (f : β → Nat → β) (x : β) (i : Nat) : (List.range (i + 1)).foldl f x = f ((List.range i).foldl f x) i := by rw [List.range_succ, List.foldl_append]; rfl
theorem foldl_take_succ {β : Type} (f : β → Int → β) (x : β) (ks : List Int) (j : Nat) (h : j < ks.length) : (ks.take (j + 1)).foldl f x = f ((ks.take j).foldl f x) (rd ks j) := by
 rw [List.take_succ_eq_append_getElem h, List.foldl_append]
 simp [rd, List.getD_eq_getElem?_getD, h]
theorem down_calls (w0 w : World) (A0 : Option Addr) (c0 : Nat) (l : List S44) (A2 : Option Addr) (c2 : Nat) (kids : List (List Int)) (A1 : Option Addr) (c1 : Nat) (xs : List S74)
  (hB : Below w0.heap.size w0 w) (hr0 : Kd.C k44 w0 A0 l.length l) (hc0 : l.length ≤ c0) (hsz : l.length ≤ 5864062014805)
  (hk : Kd.S (Kd.slice 3 (Kd.int .i64)) 26 w w0.heap.size (fun _ => True) (.slice A2 l.length c2) kids) (hkids : KidsOk kids l.length)
  (hr : Kd.R k74 74 w w0.heap.size (fun _ => True) (.slice A1 l.length c1) xs) (hxl : xs.length = l.length) :
  Calls Try.prog 54 #[.agg #[.slice A0 l.length c0, .slice A2 l.length c2], .slice A1 l.length c1] w fun e w' => e = .returned (.tuple #[]) ∧
   Kd.R k74 74 w' w0.heap.size (fun _ => True) (.slice A1 l.length c1) (downF l kids xs) ∧ w.grownBy w' (Value.slice A1 l.length c1).ownBlock := by
 have hu67 := Try.underlying67
 have HBW0 := Aside0.mk hB
 have HR0 := Aside0.mk hr0
 have HSZ := Aside0.mk hsz
 have HC0 := Aside0.mk hc0
 have HK := Aside0.mk hk
 have HKO := Aside0.mk hkids
 have HR := Aside0.mk hr
 have HXL := Aside0.mk hxl
 clear hB hr0 hsz hk hkids hr hxl hc0
 have HGO := Aside0.mk (show ∀ k, (Value.slice A1 l.length c1).ownBlock = some k → w0.heap.size ≤ k from fun k hk => by obtain ⟨inner, ho⟩ := Kd.R_own HR.out; exact own_base ho k hk)
 have HB := Aside0.mk (Below.refl w.heap.size w)
 go_enter Try.func54, Try.ntmps54
 go_wp2_with (first | ((with_reducible refine gate_dst (N := 2) rfl ?_); refine box_event ?hg (N := 2) ?hd (cs := #[.slice A0 l.length c0, .slice A2 l.length c2]) (t := 67) ?hr ?_; (case hd => rfl); (case hg => rfl); (case hr => first | (go_simp; done) | (go_simp; rfl)); intro gb hg wb hbox hb; have n0_ := Aside0.mk (below_step HB.out hb); have BK := Aside0.mk hbox; have GW := Aside0.mk ((by rw [hg]; exact (below_size HB.out)) : w.heap.size ≤ gb); clear HB; have HB := n0_; clear n0_; clear hb hbox hg; have hcz0 : wb.cell? ⟨gb, 0, none⟩ = some (.slice A0 l.length c0) := (blk_cell BK.out 0).trans rfl; have hcz1 : wb.cell? ⟨gb, 1, none⟩ = some (.slice A2 l.length c2) := (blk_cell BK.out 1).trans rfl))
 go_loopg [13] l.length (fun kq v13 wr => ∃ (i : Nat) (r : List S74), v13 = .int .i64 i ∧ Aside0 (kq + i = l.length) ∧ Aside0 (r = (List.range i).foldl (fun r (j : Nat) => downStep l kids r j) xs) ∧ Aside0 (wr.heap[gb]? = some (.cells #[.slice A0 l.length c0, .slice A2 l.length c2] 67 (0, 0)))
  ∧ Aside0 (Kd.R k74 74 wr w0.heap.size (fun _ => True) (.slice A1 l.length c1) r) ∧ Aside0 (Kd.S (Kd.slice 3 (Kd.int .i64)) 26 wr w0.heap.size (fun _ => True) (.slice A2 l.length c2) kids) ∧ Aside0 (w.grownBy wr (Value.slice A1 l.length c1).ownBlock))
 case atStart => exact ⟨0, xs, rfl, ⟨by omega⟩, ⟨rfl⟩, BK, ⟨Kd.R_below HR.out HB.out⟩, ⟨Kd.S_below HK.out HB.out⟩, ⟨grown_of_below HB.out _⟩⟩
 case round =>
  clear hcz0 hcz1 BK
  obtain ⟨n, r, rfl, HM, HRN, BK, HRR, HSS, HG⟩ := hrel
  have hcz0 : wr.cell? ⟨gb, 0, none⟩ = some (.slice A0 l.length c0) := (blk_cell BK.out 0).trans rfl
  have hcz1 : wr.cell? ⟨gb, 1, none⟩ = some (.slice A2 l.length c2) := (blk_cell BK.out 1).trans rfl
  have HRL := Aside0.mk (show r.length = l.length by rw [HRN.out, downFold_len, HXL.out])
  by_cases hlt : n < l.length
  ·obtain ⟨i, hi⟩ : ∃ i : Int, i = (n : Int) := ⟨_, rfl⟩
   rw [← hi]
   have hi0 : 0 ≤ i := by omega
   have hi1 : i < l.length := by omega
   have HI := Aside0.mk (And.intro hi0 (And.intro hi1 hi))
   have HBW := Aside0.mk (grown_below HBW0.out HG.out HGO.out)
   have HC0W := Aside0.mk (Kd.C_below HR0.out HBW.out)
   have hSr := Kd.S_reads' HSS.out
   have hRr := Kd.R_reads' HRR.out
   obtain ⟨bl, hbl⟩ : ∃ bl, bl = belowI kids r i := ⟨_, rfl⟩
   have HCALL := Aside0.mk (below_calls A0 l.length c0 l A2 l.length c2 kids A1 l.length c1 r i wr rfl hSr.1 HRL.out.symm HC0W.out HC0.out hSr.2.2 (hSr.1 ▸ hSr.2.1) hRr.2.2 (HRL.out ▸ hRr.2.1) hi0 (hSr.1 ▸ hi1) (HRL.out.trans hSr.1) (hSr.1 ▸ HKO.out) (hSr.1 ▸ HSZ.out))
   rw [← hbl] at HCALL
   have HBL := Aside0.mk hbl
   have HBLN := Aside0.mk (show bl.length ≤ 140737488355328 by rw [hbl]; unfold belowI; rw [List.length_map]; have := (HKO.out.2 i).1; have := HSZ.out; omega)
   have HSL := Aside0.mk hSr.1
   obtain ⟨g2, cap2, e2, gb2, gl2, gcl2⟩ := Kd.S_form HSS.out (by have := HI.out; have := HSL.out; omega)
   obtain ⟨cl2, hcl2⟩ := gcl2
   injection e2 with ea2 en2 ec2
   subst ea2
   subst ec2
   obtain ⟨Ak, ck, okk, hck, hfk, hRk, hokk, hput⟩ := kid_lend HSS.out i hi0 hi1
   clear hput hfk
   obtain ⟨g, cap, e1, gb1, gl1, gcl, hgcl⟩ := Kd.R_form HRR.out (by have := HI.out; have := HRL.out; omega)
   injection e1 with ea en ec
   subst ea
   subst ec
   have HGB := Aside0.mk gb1
   have HGC := Aside0.mk hgcl
   obtain ⟨ks, hks⟩ : ∃ ks, ks = rdK kids i := ⟨_, rfl⟩
   replace hck : wr.cell? ⟨g2, i.toNat, none⟩ = some (.slice Ak ks.length ck) := by rw [hks]; exact hck
   replace hRk : Kd.R (Kd.int .i64) 3 wr w0.heap.size okk (.slice Ak ks.length ck) ks := by rw [hks]; exact hRk
   have HKS := Aside0.mk hks
   have HKR := Aside0.mk hRk
   have HKN := Aside0.mk (show ks.length ≤ l.length ∧ ∀ k ∈ ks, 0 ≤ k ∧ k < l.length from hks ▸ HKO.out.2 i)
   have HB0 := Aside0.mk (Below.refl wr.heap.size wr)
   have d1 : decide (i < (l.length : Int)) = true := decide_eq_true hi1
   have ci2 : (0 ≤ i) = True := eq_true hi0
   have ci3 : (i < l.length) = True := eq_true hi1
   clear hi hi0 hi1 hlt hSr hRr hbl gb2 gl2 hcl2 hRk hokk gb1 gl1 hgcl hks en en2
   go_wp2_with (first | (go_at_call 64; (with_reducible refine HCALL.out.mono ?_); rintro e w1 ⟨Ab, cb, rfl, hRb, hb⟩; have HRB := Aside0.mk (Kd.R_reads' hRb).2; have n0_ := Aside0.mk (below_step HB0.out hb); have HB1 := Aside0.mk (Below.refl w1.heap.size w1); clear HB0; have HB0 := n0_; clear n0_; replace hcz0 := (hb.cell (World.block_lt_of_cell? _ _ hcz0)).trans hcz0; replace hcz1 := (hb.cell (World.block_lt_of_cell? _ _ hcz1)).trans hcz1; replace hck := (hb.cell (World.block_lt_of_cell? _ _ hck)).trans hck; clear hRb hb) | (go_at_call 66; (with_reducible refine (flow_total_low Ab cb bl _ (Kd.C_below HRB.out.2 HB1.out) HRB.out.1 HBLN.out).mono ?_); rintro e w2 ⟨rfl, hb⟩; have n0_ := Aside0.mk (below_step HB0.out hb); have n1_ := Aside0.mk (below_step HB1.out hb); clear HB0 HB1; have HB0 := n0_; have HB1 := n1_; clear n0_ n1_; replace hcz0 := (hb.cell (World.block_lt_of_cell? _ _ hcz0)).trans hcz0; replace hcz1 := (hb.cell (World.block_lt_of_cell? _ _ hcz1)).trans hcz1; replace hck := (hb.cell (World.block_lt_of_cell? _ _ hck)).trans hck; clear hb) | (go_at_call 66; (with_reducible refine (flow_total_high Ab cb bl _ (Kd.C_below HRB.out.2 HB1.out) HRB.out.1 HBLN.out).mono ?_); rintro e w2 ⟨rfl, hb⟩; have n0_ := Aside0.mk (below_step HB0.out hb); have n1_ := Aside0.mk (below_step HB1.out hb); clear HB0 HB1; have HB0 := n0_; have HB1 := n1_; clear n0_ n1_; replace hcz0 := (hb.cell (World.block_lt_of_cell? _ _ hcz0)).trans hcz0; replace hcz1 := (hb.cell (World.block_lt_of_cell? _ _ hcz1)).trans hcz1; replace hck := (hb.cell (World.block_lt_of_cell? _ _ hck)).trans hck; clear hb))
   clear hcz0 hcz1 hck HB1 HRB
   have HGS := Aside0.mk (grown_then HG.out HB0.out)
   have HRRS := Aside0.mk (Kd.R_below HRR.out HB0.out)
   have HSSS := Aside0.mk (Kd.S_below HSS.out HB0.out)
   have HKRS := Aside0.mk (Kd.R_mono (Kd.R_below HKR.out HB0.out) (fun _ _ => trivial))
   have HBKS := Aside0.mk (blk_below BK.out HB0.out)
   have HB00 := HB0.out
   clear HG HRR HSS HKR BK HB0
   have GBG := Aside0.mk (show some gb ≠ some g from by have := blk_ne HBKS.out (blk_below HGC.out HB00) (by decide); simpa using this)
   clear HB00
   obtain ⟨gko, hgko⟩ : ∃ m, gk = m := ⟨_, rfl⟩
   have HGKO := Aside0.mk hgko
   clear hgko
   obtain ⟨wo, hwo⟩ : ∃ m, wr = m := ⟨_, rfl⟩
   subst hwo
   go_loopg [30] ks.length (fun kq v30 ws => ∃ (j : Nat) (rr : List S74), v30 = .int .i64 j ∧ Aside0 (kq + j = ks.length) ∧ Aside0 (rr = (ks.take j).foldl (downCut l i (totalF S74.f0 bl) (totalF S74.f1 bl)) r) ∧ Aside0 (ws.heap[gb]? = some (.cells #[.slice A0 l.length c0, .slice (some ⟨g2, 0, none⟩) l.length c2] 67 (0, 0)))
    ∧ Aside0 (Kd.R k74 74 ws w0.heap.size (fun _ => True) (.slice (some ⟨g, 0, none⟩) l.length c1) rr) ∧ Aside0 (Kd.S (Kd.slice 3 (Kd.int .i64)) 26 ws w0.heap.size (fun _ => True) (.slice (some ⟨g2, 0, none⟩) l.length c2) kids) ∧ Aside0 (w.grownBy ws (Value.slice (some ⟨g, 0, none⟩) l.length c1).ownBlock)
    ∧ Aside0 (Kd.R (Kd.int .i64) 3 ws w0.heap.size (fun _ => True) (.slice Ak ks.length ck) ks))
   case atStart => exact ⟨0, r, rfl, ⟨by omega⟩, ⟨rfl⟩, HBKS, HRRS, HSSS, HGS, HKRS⟩
   case round =>
    clear HBKS HRRS HSSS HGS HKRS
    obtain ⟨j, rr, rfl, HJ, HRJ, HBKS, HRRS, HSSS, HGS, HKRS⟩ := hrel
    have HRRL := Aside0.mk (show rr.length = l.length by rw [HRJ.out, downCuts_len, HRL.out])
    by_cases hj : j < ks.length
    ·obtain ⟨x, hx⟩ : ∃ x : Int, x = (j : Int) := ⟨_, rfl⟩
     rw [← hx]
     have HX := Aside0.mk (show 0 ≤ x ∧ x < ks.length ∧ x = (j : Int) from ⟨by omega, by omega, hx⟩)
     have q1 : decide (x < (ks.length : Int)) = true := decide_eq_true HX.out.2.1
     have q2 : (0 ≤ x) = True := eq_true HX.out.1
     have q3 : (x < ks.length) = True := eq_true HX.out.2.1
     obtain ⟨adk, ek, hxk⟩ := Kd.at_int (Kd.R_reads' HKRS.out).2.2 x HX.out.1 HX.out.2.1
     subst ek
     obtain ⟨k, hk⟩ : ∃ k : Int, k = rd ks x := ⟨_, rfl⟩
     rw [← hk] at hxk
     have HKK := Aside0.mk (show 0 ≤ k ∧ k < l.length ∧ k = rd ks j from by
      have e : x.toNat = j := by have := HX.out; omega
      have h1 := HKN.out.2 k (by rw [hk]; simp only [rd, List.getD_eq_getElem?_getD, e, List.getElem?_eq_getElem hj, Option.getD_some]; exact List.getElem_mem hj)
      exact ⟨h1.1, h1.2, by rw [hk, HX.out.2.2]⟩)
     have q4 : (0 ≤ k) = True := eq_true HKK.out.1
     have q5 : (k < l.length) = True := eq_true HKK.out.2.1
     have hIV := iv_elem (Kd.R_drew HRRS.out) k HKK.out.1 HKK.out.2.1
     have hx0 := hIV.1.1
     have hx1 := hIV.1.2
     have hIW := iv_elem (Kd.R_drew HRRS.out) i HI.out.1 HI.out.2.1
     have hy0 := hIW.1.1
     have hy1 := hIW.1.2
     have HBWS := Aside0.mk (grown_below HBW0.out HGS.out HGO.out)
     obtain ⟨ad, ead, _, _, hx4⟩ := at_T44 (Kd.C_below HR0.out (HBWS.out.drew)) i HI.out.1 HI.out.2.1
     subst ead
     have hbk : wr.drew.cell? ⟨gb, 0, none⟩ = some (.slice (some ad) l.length c0) := (blk_cell (blk_drew HBKS.out) 0).trans rfl
     have HJL := Aside0.mk hj
     clear hIV hIW hj hx hk
     go_wp2
     clear hxk
     refine start_ (n := 42) (S := fun w' => w'.cell? ⟨gb, 0, none⟩ = some (.slice (some ad) l.length c0) ∧ w'.cell? ⟨g, k.toNat * 2, none⟩ = some (.int .i64 (rd_T74 rr k).f0) ∧ w'.cell? ⟨g, k.toNat * 2 + 1, none⟩ = some (.int .i64 (rd_T74 rr k).f1) ∧ w'.cell? ⟨g, i.toNat * 2, none⟩ = some (.int .i64 (rd_T74 rr i).f0) ∧ w'.cell? ⟨g, i.toNat * 2 + 1, none⟩ = some (.int .i64 (rd_T74 rr i).f1) ∧ w'.cell? ⟨(ad.add (i.toNat * 3)).block, (ad.add (i.toNat * 3)).off + 2, none⟩ = some (.int .i64 (rd_T44 l i).f2)) (ds := [41]) #[n_, n_, n_, n_, n_, n_, n_, n_, n_, n_, n_, n_, n_, n_, n_, n_, n_, n_, n_, n_, n_, n_, n_, n_, n_, n_, n_, n_, n_, n_, n_, n_, n_, n_, n_, n_, n_, n_, n_, n_, n_, n_] (by kernel_rfl) rfl rfl ⟨hbk, hx0, hx1, hy0, hy1, hx4⟩ (fun hHeld => ?_)
     refine pv_ 0 34 (w_ 42 1) rfl ?_
     refine pv_ 1 35 (w_ 42 3) rfl ?_
     refine pv_ 2 36 (w_ 42 7) rfl ?_
     refine pv_ 3 37 (w_ 42 15) rfl ?_
     refine pv_ 4 38 (w_ 42 31) rfl ?_
     refine pv_ 6 40 (w_ 42 95) rfl ?_
     refine pv_ 7 41 (w_ 42 223) rfl ?_
     refine pv_ 8 42 (w_ 42 479) rfl ?_
     refine pv_ 9 43 (w_ 42 991) rfl ?_
     refine pv_ 11 45 (w_ 42 3039) rfl ?_
     refine pv_ 13 47 (w_ 42 11231) rfl ?_
     refine pv_ 18 52 (w_ 42 273375) rfl ?_
     refine pv_ 19 53 (w_ 42 797663) rfl ?_
     refine pv_ 20 54 (w_ 42 1846239) rfl ?_
     refine pv_ 21 55 (w_ 42 3943391) rfl ?_
     refine pv_ 22 56 (w_ 42 8137695) rfl ?_
     refine pv_ 26 60 (w_ 42 75246559) rfl ?_
     refine pv_ 27 61 (w_ 42 209464287) rfl ?_
     refine pv_ 28 62 (w_ 42 477899743) rfl ?_
     refine pv_ 29 63 (w_ 42 1014770655) rfl ?_
     refine pv_ 31 65 (w_ 42 3162254303) rfl ?_
     refine pv_ 32 66 (w_ 42 7457221599) rfl ?_
     refine pv_ 33 67 (w_ 42 16047156191) rfl ?_
     refine pv_ 34 68 (w_ 42 33227025375) rfl ?_
     refine pv_ 35 69 (w_ 42 67586763743) rfl ?_
     refine tb_ 5 39 (w_ 42 67586763775) rfl hHeld (by rintro w' ⟨s0, s1, s2, s3, s4, s5⟩; go_simp; with_reducible rfl) ?_
     refine tb_ 10 44 (w_ 42 67586764799) rfl hHeld (by rintro w' ⟨s0, s1, s2, s3, s4, s5⟩; go_simp; with_reducible rfl) ?_
     refine tb_ 12 46 (w_ 42 67586768895) rfl hHeld (by rintro w' ⟨s0, s1, s2, s3, s4, s5⟩; go_simp; with_reducible rfl) ?_
     refine pv_ 14 48 (w_ 42 67586785279) rfl ?_
     refine pv_ 15 49 (w_ 42 67586818047) rfl ?_
     refine tb_ 16 50 (w_ 42 67586883583) rfl hHeld (by rintro w' ⟨s0, s1, s2, s3, s4, s5⟩; go_simp; with_reducible rfl) ?_
     refine pv_ 17 51 (w_ 42 67587014655) rfl ?_
     refine tb_ 23 57 (w_ 42 67595403263) rfl hHeld (by rintro w' ⟨s0, s1, s2, s3, s4, s5⟩; go_simp; with_reducible rfl) ?_
     refine pv_ 24 58 (w_ 42 67612180479) rfl ?_
     refine pv_ 25 59 (w_ 42 67645734911) rfl ?_
     refine tb_ 30 64 (w_ 42 68719476735) rfl hHeld (by rintro w' ⟨s0, s1, s2, s3, s4, s5⟩; go_simp; with_reducible rfl) ?_
     refine tb_ 36 70 (w_ 42 137438953471) rfl hHeld (by rintro w' ⟨s0, s1, s2, s3, s4, s5⟩; go_simp; with_reducible rfl) ?_
     refine pv_ 37 71 (w_ 42 274877906943) rfl ?_
     refine pv_ 38 72 (w_ 42 549755813887) rfl ?_
     refine one_ (i := 39) (N := some 73) (w_ 42 1099511627775) rfl rfl (by kernel_rfl) (by decide) (fun K hK => ?_)
     refine goes_ Try.func65 (by kernel_rfl) rfl #[.agg #[.int .i64 (rd_T74 rr k).f0, .int .i64 (rd_T74 rr k).f1], .int .i64 (wrap64 (wrap64 ((rd_T74 rr i).f0 - (rd_T44 l i).f2) - wrap64 (totalF S74.f1 bl - (rd_T74 rr k).f1))), .int .i64 (wrap64 ((rd_T74 rr i).f1 - wrap64 (totalF S74.f0 bl - (rd_T74 rr k).f0)))] (by rfl) rfl rfl (by simp only [List.map_toArray, List.map_cons, List.map_nil]; rfl) ?_
     with_reducible refine (flow_interval_cut.calls _ _ _ _ _ _ _ rfl).mono ?_
     rintro e w5 ⟨rfl, hb⟩
     refine ⟨_, rfl, ?_⟩
     have HB5 := Aside0.mk (below_step (below_drew (Below.refl _ _)) hb)
     have HIV5 := Aside0.mk (iv_elem (Kd.R_below HRRS.out HB5.out) k HKK.out.1 HKK.out.2.1)
     have hfz0 := HIV5.out.2.1.1
     have hfz1 := HIV5.out.2.1.2
     have hxz0 := HIV5.out.1.1
     have hxz1 := HIV5.out.1.2
     refine hK.out _ _ ⟨(hb.cell (World.block_lt_of_cell? _ _ hHeld.1)).trans hHeld.1, (hb.cell (World.block_lt_of_cell? _ _ hHeld.2.1)).trans hHeld.2.1, (hb.cell (World.block_lt_of_cell? _ _ hHeld.2.2.1)).trans hHeld.2.2.1, (hb.cell (World.block_lt_of_cell? _ _ hHeld.2.2.2.1)).trans hHeld.2.2.2.1, (hb.cell (World.block_lt_of_cell? _ _ hHeld.2.2.2.2.1)).trans hHeld.2.2.2.2.1, (hb.cell (World.block_lt_of_cell? _ _ hHeld.2.2.2.2.2)).trans hHeld.2.2.2.2.2⟩ (fun hHeld => ?_)
     clear hK K
     refine norm_ (a' := ?_) ?_ ?_
     rotate_left
     ·show Act.put _ (some 73) _ = _
      simp only [Act.put, sI_, s0_, sS_, i64_w, i32_w]
      rfl
     refine pv_ 40 74 (w_ 42 2199023255551) rfl ?_
     refine last_ (i := 41) (N := none) (w_ 42 4398046511103) rfl rfl (by kernel_rfl) (by decide) (fun K hK => ?_)
     refine skip_ (w1 := ?_) (by rfl) rfl ?_ ?_
     rotate_left
     ·go_simp
      rfl
     refine hK.out _ _ ?_
     clear hK K
     refine done_ (by kernel_rfl) ?_
     have hP := HIV5.out.2.2 (cutI (rd_T74 rr k) (wrap64 (wrap64 ((rd_T74 rr i).f0 - (rd_T44 l i).f2) - wrap64 (totalF S74.f1 bl - (rd_T74 rr k).f1))) (wrap64 ((rd_T74 rr i).f1 - wrap64 (totalF S74.f0 bl - (rd_T74 rr k).f0))))
     have hgW := grown_trans (grown_of_below HB5.out (some g)) hP.2
     have hown : (Value.slice (some ⟨g, 0, none⟩) l.length c1).ownBlock = some g := by simp [Value.ownBlock]
     obtain ⟨g', cap', e', _, _, cg', hcg'⟩ := Kd.R_form HRRS.out (by have := HI.out; have := HRRL.out; omega)
     injection e' with ea' en' ec'
     injection ea' with ea''
     injection ea'' with eg
     subst eg
     clear en' ec'
     have n2 : some gb ≠ some g := by have := blk_ne HBKS.out hcg' (by decide); simpa using this
     have HF := Aside0.mk (show _ ∧ _ ∧ _ ∧ _ ∧ _ from ⟨blk_grown HBKS.out hgW n2, hP.1, Kd.S_mono (Kd.S_grown (Kd.S_types HSSS.out hcg' (by decide)) hgW (fun k hk e => hk.2 (by cases e; rfl))) (fun _ hk => hk.1),
      (by rw [hown] at HGS; rw [hown]; exact grown_trans HGS.out hgW : w.grownBy _ (Value.slice (some ⟨g, 0, none⟩) l.length c1).ownBlock), Kd.R_mono (Kd.R_grown (Kd.R_types HKRS.out hcg' (by decide)) hgW (fun k hk e => hk.2 (by cases e; rfl))) (fun _ hk => hk.1)⟩)
     clear hgW hP hown n2 hcg'
     have hz1 : x + 1 ≤ 9223372036854775807 := by have := HX.out; have := HKN.out; have := HSZ.out; omega
     have hz2 : -9223372036854775808 ≤ x + 1 := by have := HX.out; omega
     go_wp2
     go_roundg (gk - 1)
     case measure => have := HJ.out; have := HJL.out; omega
     case rel =>
      refine ⟨j + 1, _, ?_, ⟨by have := HJ.out; have := HJL.out; omega⟩, ⟨?_⟩, ⟨HF.out.1⟩, ⟨HF.out.2.1⟩, ⟨HF.out.2.2.1⟩, ⟨HF.out.2.2.2.1⟩, ⟨HF.out.2.2.2.2⟩⟩
      ·have := HX.out
       first | (rw [show ((j + 1 : Nat) : Int) = x + 1 from by omega]; done) | (simp; omega)
      ·rw [foldl_take_succ _ _ _ _ HJL.out, ← HRJ.out, ← HKK.out.2.2]
       rfl
    ·have q1 : decide ((j : Int) < (ks.length : Int)) = false := decide_eq_false (by omega)
     have q1' : decide (j < ks.length) = false := decide_eq_false hj
     have HJL := Aside0.mk (show j = ks.length by have := HJ.out; omega)
     clear hj
     have hz1 : i + 1 ≤ 9223372036854775807 := by have := HI.out; have := HSZ.out; omega
     have hz2 : -9223372036854775808 ≤ i + 1 := by have := HI.out; omega
     go_wp2
     go_roundg (gko - 1)
     case measure => have := HM.out; have := HI.out; have := HGKO.out; omega
     case rel =>
      refine ⟨n + 1, rr, ?_, ⟨by have := HM.out; have := HI.out; have := HGKO.out; omega⟩, ⟨?_⟩, HBKS, HRRS, HSSS, HGS⟩
      ·have := HI.out
       first | (rw [show ((n + 1 : Nat) : Int) = i + 1 from by omega]; done) | (simp; omega)
      ·rw [HRJ.out, HJL.out, List.take_length, foldl_range_succ, ← HRN.out]
       rw [← HI.out.2.2]
       show _ = (rdK kids i).foldl _ r
       rw [← HBL.out, ← HKS.out]
  ·have d1 : decide ((n : Int) < (l.length : Int)) = false := decide_eq_false (by omega)
   have d1' : decide (n < l.length) = false := decide_eq_false hlt
   have HNL := Aside0.mk (show n = l.length by have := HM.out; omega)
   clear hlt
   go_wp2
   refine bodyPost_end (v := .tuple #[]) ?hr ?hd ?hR
   case hd => rfl
   case hr => exact results_none rfl _ _ _
   refine ⟨rfl, ?_, HG.out⟩
   unfold downF
   rw [← HNL.out, ← HRN.out, HNL.out]
   exact HRR.out
end
section
def flow_interval_empty.f (a0_0 : Int) (a0_1 : Int) : Option (Bool) := some (decide (a0_0 > a0_1))
theorem flow_interval_empty.calls (a0_0 : Int) (a0_1 : Int) (r : Bool) (w : World) (h : flow_interval_empty.f a0_0 a0_1 = some r) :
  Calls Try.prog 56 #[.agg #[.int .i64 a0_0, .int .i64 a0_1]] w fun e w' => e = .returned (.bool r) ∧ Below w.heap.size w w' := by
 have hu74 := Try.underlying74
 have HB := Aside0.mk (Below.refl w.heap.size w)
 have H : (some (decide (a0_0 > a0_1))) = some r := h
 clear h
 obtain rfl := Option.some.inj H
 go_enter Try.func56, Try.ntmps56
 go_wp2_with (first | ((with_reducible refine gate_dst (N := 1) rfl ?_); refine box_event ?hg (N := 1) ?hd (cs := #[.int .i64 a0_0, .int .i64 a0_1]) (t := 74) ?hr ?_; (case hd => rfl); (case hg => rfl); (case hr => first | (go_simp; done) | (go_simp; rfl)); intro gb120 hg w2 hbox hb; have n0_ := Aside0.mk (below_step (bb_ HB) hb); have n1_ := Aside0.mk (hbox); have n2_ := Aside0.mk ((by rw [hg]; exact (below_size (bb_ HB)) : w.heap.size ≤ gb120)); have n3_ := Aside0.mk ((by rw [hg]; exact (below_size (bb_ HB)) : w.heap.size ≤ gb120)); clear HB; have HB := n0_; have BK120 := n1_; have GW120 := n2_; have GE120 := n3_; clear n0_ n1_ n2_ n3_; clear hb hbox hg; have hcz3_0 : w2.cell? ⟨gb120, 0, none⟩ = some (.int .i64 a0_0) := (blk_cell BK120.out 0).trans rfl; have hcz3_1 : w2.cell? ⟨gb120, 1, none⟩ = some (.int .i64 a0_1) := (blk_cell BK120.out 1).trans rfl; have hfz3_0 := blk_frozen BK120.out 0; have hfz3_1 := blk_frozen BK120.out 1))
 go_ret
 exact ⟨ew_, by repeat (first | (with_reducible first | exact HB.out | apply below_alloc | apply pw_below_drewN | apply below_drew1 | refine below_set ?_ GE120.out) | exact HB.out)⟩
end
section
open Go.Proofs.YtolmjhpapidmhaaH
def emptyI (r : S74) : Bool := decide (r.f0 > r.f1)
theorem emptyI_f {b : Bool} {r : S74} (h : emptyI r = b) : flow_interval_empty.f r.f0 r.f1 = some b := by
 subst h
 rfl
def idxB74 (p : S74 → Bool) (l : List S74) : Int := match l.findIdx? p with | some i => i | none => -1
theorem idxB74_some (p : S74 → Bool) (l : List S74) (i : Int) (h0 : 0 ≤ i) (h1 : i < l.length) (hp : p (rd_T74 l i) = true) (hb : ∀ j : Nat, j < i.toNat → p (rd_T74 l j) = false) : idxB74 p l = i := by
 have h' : i.toNat < l.length := by omega
 have hf : l.findIdx? p = some i.toNat := by
  rw [List.findIdx?_eq_some_iff_getElem]
  refine ⟨h', ?_, fun j hj => ?_⟩
  ·have := hp
   simpa [rd_T74, List.getD_eq_getElem?_getD, h'] using this
  ·have := hb j hj
   have hj' : j < l.length := by omega
   simpa [rd_T74, List.getD_eq_getElem?_getD, hj'] using this
 unfold idxB74
 rw [hf]
 show ((i.toNat : Nat) : Int) = i
 omega
theorem idxB74_none (p : S74 → Bool) (l : List S74) (hb : ∀ j : Nat, j < l.length → p (rd_T74 l j) = false) : idxB74 p l = -1 := by
 have hf : l.findIdx? p = none := by
  rw [List.findIdx?_eq_none_iff]
  intro x hx
  obtain ⟨j, hj, rfl⟩ := List.mem_iff_getElem.1 hx
  have := hb j hj
  simpa [rd_T74, List.getD_eq_getElem?_getD, hj] using this
 unfold idxB74
 rw [hf]
theorem idxB74_any (p : S74 → Bool) (l : List S74) : decide (idxB74 p l ≥ 0) = l.any p := by
 unfold idxB74
 cases h : l.findIdx? p with
 | none =>
  rw [List.findIdx?_eq_none_iff] at h
  rw [show decide (((match (none : Option Nat) with | some i => (i : Int) | none => (-1 : Int)) : Int) ≥ 0) = false from rfl]
  symm
  rw [List.any_eq_false]
  intro x hx
  simp [h x hx]
 | some i =>
  obtain ⟨h1, h2, _⟩ := List.findIdx?_eq_some_iff_getElem.1 h
  rw [show decide (((match (some i : Option Nat) with | some i => (i : Int) | none => (-1 : Int)) : Int) ≥ 0) = true from decide_eq_true (Int.natCast_nonneg i)]
  symm
  rw [List.any_eq_true]
  exact ⟨_, List.getElem_mem h1, h2⟩
theorem interval_index (A0 : Option Addr) (c0 : Nat) (l0 : List (S74)) (w : World) (hr0 : Kd.C k74 w A0 l0.length l0) (hc0 : l0.length ≤ c0) (hn : l0.length ≤ 140737488355328) :
 Calls Try.prog 69 #[.slice A0 l0.length c0, .func (.func 56) #[] #[]] w fun e w' => e = .returned (.int .i64 (idxB74 emptyI l0)) ∧ Below w.heap.size w w' := by
 have hu74 := Try.underlying74
 have HR0 := Aside0.mk hr0
 have HC0 := Aside0.mk hc0
 have HN := Aside0.mk hn
 clear hr0 hc0 hn
 have HB := Aside0.mk (Below.refl w.heap.size w)
 go_enter Try.func69, Try.ntmps69
 go_wp2
 go_loopg [8] l0.length (fun kq v8 w' => ∃ (i : Int), v8 = .int .i64 i ∧ Aside0 (∀ j : Nat, j < i.toNat → emptyI (rd_T74 l0 j) = false) ∧ Aside0 (0 ≤ i ∧ kq + i.toNat = l0.length) ∧ Aside0 (Below w.heap.size w w'))
 case atStart => exact ⟨0, rfl, ⟨fun j hj => by simp at hj⟩, ⟨by simp⟩, HB⟩
 case round =>
  obtain ⟨i, rfl, HS, HK, HB⟩ := hrel
  by_cases hlt : i < l0.length
  ·have c1 : decide ((i:Int) < (l0.length : Int)) = true := decide_eq_true hlt
   have c2 : (0 ≤ i) = True := eq_true HK.out.1
   have c3 : (i < l0.length) = True := eq_true hlt
   obtain ⟨ad, e, hx0, hx1⟩ := at_T74 HR0.out i HK.out.1 hlt
   cases e
   replace hx0 := (HB.out.cell (World.block_lt_of_cell? w _ hx0)).trans hx0
   replace hx1 := (HB.out.cell (World.block_lt_of_cell? w _ hx1)).trans hx1
   have HL := Aside0.mk hlt
   clear hlt
   have hw1 : i + 1 ≤ 9223372036854775807 := by have := HN.out; have := HL.out; omega
   have hw2 : 0 ≤ i + 1 := by have := HK.out; omega
   cases hp : emptyI (rd_T74 l0 i) with
   | true =>
    have HP := Aside0.mk hp
    clear hp
    go_wp2_with (first | ((with_reducible refine (flow_interval_empty.calls (rd_T74 l0 i).f0 (rd_T74 l0 i).f1 _ _ (emptyI_f HP.out)).mono ?_); rintro e w1 ⟨rfl, hb⟩; have HB1 := Aside0.mk hb; clear hb))
    go_ret
    refine ⟨?_, HB.out.trans (HB1.out.mono HB.out.size)⟩
    rw [idxB74_some _ _ i HK.out.1 HL.out HP.out HS.out]
    first | rfl | (simp; done)
   | false =>
    have HP := Aside0.mk hp
    clear hp
    go_wp2_with (first | ((with_reducible refine (flow_interval_empty.calls (rd_T74 l0 i).f0 (rd_T74 l0 i).f1 _ _ (emptyI_f HP.out)).mono ?_); rintro e w1 ⟨rfl, hb⟩; have HB1 := Aside0.mk hb; clear hb))
    go_roundg (gk - 1)
    case measure => have := HK.out; have := HL.out; omega
    case rel =>
     refine ⟨i + 1, ?_, ⟨fun j hj => ?_⟩, ⟨by have := HK.out; have := HL.out; omega⟩, ⟨HB.out.trans (HB1.out.mono HB.out.size)⟩⟩
     ·first | rfl | (simp; done)
     ·by_cases hji : j < i.toNat
      ·exact HS.out j hji
      ·have : (j : Int) = i := by have := HK.out; omega
       rw [this]
       exact HP.out
  ·have c1 : decide ((i:Int) < (l0.length : Int)) = false := decide_eq_false hlt
   have HL := Aside0.mk hlt
   clear hlt
   go_wp2
   go_ret
   refine ⟨?_, HB.out⟩
   rw [idxB74_none _ _ (fun j hj => HS.out j (by have := HK.out; have := HL.out; omega))]
   first | rfl | (simp; done)
theorem interval_contains (A0 : Option Addr) (c0 : Nat) (l0 : List (S74)) (w : World) (hr0 : Kd.C k74 w A0 l0.length l0) (hc0 : l0.length ≤ c0) (hn : l0.length ≤ 140737488355328) :
 Calls Try.prog 55 #[.slice A0 l0.length c0, .func (.func 56) #[] #[]] w fun e w' => e = .returned (.bool (l0.any emptyI)) ∧ Below w.heap.size w w' := by
 have HR0 := Aside0.mk hr0
 clear hr0
 go_enter Try.func55, Try.ntmps55
 go_wp2_with (first | ((with_reducible refine (interval_index _ _ l0 _ HR0.out hc0 hn).mono ?_); rintro e w1 ⟨rfl, hb⟩; have HB1 := Aside0.mk hb; clear hb))
 go_ret
 refine ⟨?_, HB1.out⟩
 rw [← idxB74_any]
 first | rfl | (simp; done)
theorem u90 : Try.prog.underlying 90 = some (.array 2 89) := by kernel_rfl
theorem ix0 (n1 n2 : FuncId) (a1 a2 : Array Value) (w : World) : (Instr.index 90 (.agg #[.func (.func n1) a1 #[], .func (.func n2) a2 #[]]) (.int .i64 0)).run Try.prog w = .ok (.func (.func n1) a1 #[]) w := by
 simp [Instr.index, run_underlying u90, asIntOf, go_sem]
theorem ix1 (n1 n2 : FuncId) (a1 a2 : Array Value) (w : World) : (Instr.index 90 (.agg #[.func (.func n1) a1 #[], .func (.func n2) a2 #[]]) (.int .i64 1)).run Try.prog w = .ok (.func (.func n2) a2 #[]) w := by
 simp [Instr.index, run_underlying u90, asIntOf, go_sem]
attribute [local go_sem] ix0 ix1
def boundsF (l : List S44) (kids : List (List Int)) (r : List S74) : Bool × List S74 :=
 if (upF l kids r).any emptyI then (false, upF l kids r) else
 if (downF l kids (upF l kids r)).any emptyI then (false, downF l kids (upF l kids r)) else (true, downF l kids (upF l kids r))
theorem upF_len (l : List S44) (kids : List (List Int)) (r : List S74) : (upF l kids r).length = r.length := upFold_len _ _ _ _
theorem downF_len (l : List S44) (kids : List (List Int)) (r : List S74) : (downF l kids r).length = r.length := downFold_len _ _ _ _
theorem boundsF_len (l : List S44) (kids : List (List Int)) (r : List S74) : (boundsF l kids r).2.length = r.length := by
 unfold boundsF
 (repeat' split) <;> simp [upF_len, downF_len]
theorem bounds_calls (w0 w : World) (A0 : Option Addr) (c0 : Nat) (l : List S44) (A2 : Option Addr) (c2 : Nat) (kids : List (List Int)) (A1 : Option Addr) (c1 : Nat) (xs : List S74)
  (hB : Below w0.heap.size w0 w) (hr0 : Kd.C k44 w0 A0 l.length l) (hc0 : l.length ≤ c0) (hsz : l.length ≤ 5864062014805)
  (hk : Kd.S (Kd.slice 3 (Kd.int .i64)) 26 w w0.heap.size (fun _ => True) (.slice A2 l.length c2) kids) (hkids : KidsOk kids l.length)
  (hr : Kd.R k74 74 w w0.heap.size (fun _ => True) (.slice A1 l.length c1) xs) (hxl : xs.length = l.length) :
  Calls Try.prog 39 #[.agg #[.slice A0 l.length c0, .slice A2 l.length c2], .slice A1 l.length c1] w fun e w' => e = .returned (.bool (boundsF l kids xs).1) ∧
   Kd.R k74 74 w' w0.heap.size (fun _ => True) (.slice A1 l.length c1) (boundsF l kids xs).2 ∧ w.grownBy w' (Value.slice A1 l.length c1).ownBlock := by
 have hu67 := Try.underlying67
 have HBW0 := Aside0.mk hB
 have HR0 := Aside0.mk hr0
 have HSZ := Aside0.mk hsz
 have HC0 := Aside0.mk hc0
 have HK := Aside0.mk hk
 have HKO := Aside0.mk hkids
 have HR := Aside0.mk hr
 have HXL := Aside0.mk hxl
 clear hB hr0 hsz hk hkids hr hxl hc0
 have HGO := Aside0.mk (show ∀ k, (Value.slice A1 l.length c1).ownBlock = some k → w0.heap.size ≤ k from fun k hk => by obtain ⟨inner, ho⟩ := Kd.R_own HR.out; exact own_base ho k hk)
 have HB := Aside0.mk (Below.refl w.heap.size w)
 go_enter Try.func39, Try.ntmps39
 go_wp2_with (first | ((with_reducible refine gate_dst (N := 2) rfl ?_); refine box_event ?hg (N := 2) ?hd (cs := #[.slice A0 l.length c0, .slice A2 l.length c2]) (t := 67) ?hr ?_; (case hd => rfl); (case hg => rfl); (case hr => first | (go_simp; done) | (go_simp; rfl)); intro gb hg wb hbox hb; have n0_ := Aside0.mk (below_step HB.out hb); have BK := Aside0.mk hbox; have GW := Aside0.mk ((by rw [hg]; exact (below_size HB.out)) : w.heap.size ≤ gb); clear HB; have HB := n0_; clear n0_; clear hb hbox hg; have hcz0 : wb.cell? ⟨gb, 0, none⟩ = some (.slice A0 l.length c0) := (blk_cell BK.out 0).trans rfl; have hcz1 : wb.cell? ⟨gb, 1, none⟩ = some (.slice A2 l.length c2) := (blk_cell BK.out 1).trans rfl))
 go_loopg [12] 3 (fun kq v12 wr => (Aside0 (Kd.S (Kd.slice 3 (Kd.int .i64)) 26 wr w0.heap.size (fun _ => True) (.slice A2 l.length c2) kids) ∧ Aside0 (w.grownBy wr (Value.slice A1 l.length c1).ownBlock)) ∧
  ((v12 = .int .i64 0 ∧ Aside0 (kq = 3) ∧ Aside0 (Kd.R k74 74 wr w0.heap.size (fun _ => True) (.slice A1 l.length c1) xs)) ∨
   (v12 = .int .i64 1 ∧ Aside0 (kq = 2) ∧ Aside0 (Kd.R k74 74 wr w0.heap.size (fun _ => True) (.slice A1 l.length c1) (upF l kids xs)) ∧ Aside0 ((upF l kids xs).any emptyI = false)) ∨
   (v12 = .int .i64 2 ∧ Aside0 (kq = 1) ∧ Aside0 (Kd.R k74 74 wr w0.heap.size (fun _ => True) (.slice A1 l.length c1) (downF l kids (upF l kids xs))) ∧ Aside0 ((upF l kids xs).any emptyI = false) ∧ Aside0 ((downF l kids (upF l kids xs)).any emptyI = false))))
 case atStart => exact ⟨⟨⟨Kd.S_below HK.out HB.out⟩, ⟨grown_of_below HB.out _⟩⟩, .inl ⟨rfl, ⟨rfl⟩, ⟨Kd.R_below HR.out HB.out⟩⟩⟩
 case round =>
  clear hcz0 hcz1 BK HB
  obtain ⟨⟨HSS, HG⟩, ⟨rfl, HM, HRR⟩ | ⟨rfl, HM, HRR, HU⟩ | ⟨rfl, HM, HRR, HU, HD⟩⟩ := hrel
  ·have HBW := Aside0.mk (grown_below HBW0.out HG.out HGO.out)
   cases hany : (upF l kids xs).any emptyI with
   | true =>
    have HA := Aside0.mk hany
    clear hany
    go_wp2_with (first | (go_at_call 53; (with_reducible refine (up_calls w0 _ A0 c0 l A2 c2 kids A1 c1 xs HBW.out HR0.out HC0.out HSZ.out HSS.out HKO.out HRR.out (by first | exact HXL.out | (rw [upF_len]; exact HXL.out))).mono ?_); rintro e w1 ⟨rfl, hr1, hg⟩; have HR1 := Aside0.mk (show Kd.R k74 74 w1 w0.heap.size (fun _ => True) (.slice A1 l.length c1) (upF l kids xs) from hr1); have HG1 := Aside0.mk hg; have HS1 := Aside0.mk (show Kd.S (Kd.slice 3 (Kd.int .i64)) 26 w1 w0.heap.size (fun _ => True) (.slice A2 l.length c2) kids from Kd.S_mono (Kd.S_grown (Kd.S_apart' HSS.out (Kd.R_typed HRR.out) (by decide)) hg (fun _ hk => hk.2)) (fun _ hk => hk.1)); clear hr1 hg) | (go_at_call 55; (with_reducible refine (show Calls _ _ #[.slice A1 l.length c1, .func (.func 56) #[] #[]] _ _ from (Kd.R_reads' HR1.out).1 ▸ interval_contains A1 c1 (upF l kids xs) _ (Kd.R_reads' HR1.out).2.2 ((Kd.R_reads' HR1.out).1 ▸ (Kd.R_reads' HR1.out).2.1) (by have h1 := (Kd.R_reads' HR1.out).1; have := HSZ.out; omega)).mono ?_); rw [HA.out]; rintro e w2 ⟨rfl, hb⟩; have HB2 := Aside0.mk hb; clear hb))
    go_ret
    have e1 : boundsF l kids xs = (false, upF l kids xs) := by unfold boundsF; rw [if_pos HA.out]
    rw [e1]
    exact ⟨rfl, Kd.R_below HR1.out HB2.out, grown_then (grown_trans HG.out HG1.out) HB2.out⟩
   | false =>
    have HA := Aside0.mk hany
    clear hany
    go_wp2_with (first | (go_at_call 53; (with_reducible refine (up_calls w0 _ A0 c0 l A2 c2 kids A1 c1 xs HBW.out HR0.out HC0.out HSZ.out HSS.out HKO.out HRR.out (by first | exact HXL.out | (rw [upF_len]; exact HXL.out))).mono ?_); rintro e w1 ⟨rfl, hr1, hg⟩; have HR1 := Aside0.mk (show Kd.R k74 74 w1 w0.heap.size (fun _ => True) (.slice A1 l.length c1) (upF l kids xs) from hr1); have HG1 := Aside0.mk hg; have HS1 := Aside0.mk (show Kd.S (Kd.slice 3 (Kd.int .i64)) 26 w1 w0.heap.size (fun _ => True) (.slice A2 l.length c2) kids from Kd.S_mono (Kd.S_grown (Kd.S_apart' HSS.out (Kd.R_typed HRR.out) (by decide)) hg (fun _ hk => hk.2)) (fun _ hk => hk.1)); clear hr1 hg) | (go_at_call 55; (with_reducible refine (show Calls _ _ #[.slice A1 l.length c1, .func (.func 56) #[] #[]] _ _ from (Kd.R_reads' HR1.out).1 ▸ interval_contains A1 c1 (upF l kids xs) _ (Kd.R_reads' HR1.out).2.2 ((Kd.R_reads' HR1.out).1 ▸ (Kd.R_reads' HR1.out).2.1) (by have h1 := (Kd.R_reads' HR1.out).1; have := HSZ.out; omega)).mono ?_); rw [HA.out]; rintro e w2 ⟨rfl, hb⟩; have HB2 := Aside0.mk hb; clear hb))
    go_roundg (gk - 1)
    case measure => have := HM.out; omega
    case rel => exact ⟨⟨⟨Kd.S_below HS1.out HB2.out⟩, ⟨grown_then (grown_trans HG.out HG1.out) HB2.out⟩⟩, .inr (.inl ⟨rfl, ⟨by have := HM.out; omega⟩, ⟨Kd.R_below HR1.out HB2.out⟩, HA⟩)⟩
  ·have HBW := Aside0.mk (grown_below HBW0.out HG.out HGO.out)
   cases hany : (downF l kids (upF l kids xs)).any emptyI with
   | true =>
    have HA := Aside0.mk hany
    clear hany
    go_wp2_with (first | (go_at_call 54; (with_reducible refine (down_calls w0 _ A0 c0 l A2 c2 kids A1 c1 (upF l kids xs) HBW.out HR0.out HC0.out HSZ.out HSS.out HKO.out HRR.out (by first | exact HXL.out | (rw [upF_len]; exact HXL.out))).mono ?_); rintro e w1 ⟨rfl, hr1, hg⟩; have HR1 := Aside0.mk (show Kd.R k74 74 w1 w0.heap.size (fun _ => True) (.slice A1 l.length c1) (downF l kids (upF l kids xs)) from hr1); have HG1 := Aside0.mk hg; have HS1 := Aside0.mk (show Kd.S (Kd.slice 3 (Kd.int .i64)) 26 w1 w0.heap.size (fun _ => True) (.slice A2 l.length c2) kids from Kd.S_mono (Kd.S_grown (Kd.S_apart' HSS.out (Kd.R_typed HRR.out) (by decide)) hg (fun _ hk => hk.2)) (fun _ hk => hk.1)); clear hr1 hg) | (go_at_call 55; (with_reducible refine (show Calls _ _ #[.slice A1 l.length c1, .func (.func 56) #[] #[]] _ _ from (Kd.R_reads' HR1.out).1 ▸ interval_contains A1 c1 (downF l kids (upF l kids xs)) _ (Kd.R_reads' HR1.out).2.2 ((Kd.R_reads' HR1.out).1 ▸ (Kd.R_reads' HR1.out).2.1) (by have h1 := (Kd.R_reads' HR1.out).1; have := HSZ.out; omega)).mono ?_); rw [HA.out]; rintro e w2 ⟨rfl, hb⟩; have HB2 := Aside0.mk hb; clear hb))
    go_ret
    have e1 : boundsF l kids xs = (false, downF l kids (upF l kids xs)) := by unfold boundsF; rw [if_neg (by rw [HU.out]; decide), if_pos HA.out]
    rw [e1]
    exact ⟨rfl, Kd.R_below HR1.out HB2.out, grown_then (grown_trans HG.out HG1.out) HB2.out⟩
   | false =>
    have HA := Aside0.mk hany
    clear hany
    go_wp2_with (first | (go_at_call 54; (with_reducible refine (down_calls w0 _ A0 c0 l A2 c2 kids A1 c1 (upF l kids xs) HBW.out HR0.out HC0.out HSZ.out HSS.out HKO.out HRR.out (by first | exact HXL.out | (rw [upF_len]; exact HXL.out))).mono ?_); rintro e w1 ⟨rfl, hr1, hg⟩; have HR1 := Aside0.mk (show Kd.R k74 74 w1 w0.heap.size (fun _ => True) (.slice A1 l.length c1) (downF l kids (upF l kids xs)) from hr1); have HG1 := Aside0.mk hg; have HS1 := Aside0.mk (show Kd.S (Kd.slice 3 (Kd.int .i64)) 26 w1 w0.heap.size (fun _ => True) (.slice A2 l.length c2) kids from Kd.S_mono (Kd.S_grown (Kd.S_apart' HSS.out (Kd.R_typed HRR.out) (by decide)) hg (fun _ hk => hk.2)) (fun _ hk => hk.1)); clear hr1 hg) | (go_at_call 55; (with_reducible refine (show Calls _ _ #[.slice A1 l.length c1, .func (.func 56) #[] #[]] _ _ from (Kd.R_reads' HR1.out).1 ▸ interval_contains A1 c1 (downF l kids (upF l kids xs)) _ (Kd.R_reads' HR1.out).2.2 ((Kd.R_reads' HR1.out).1 ▸ (Kd.R_reads' HR1.out).2.1) (by have h1 := (Kd.R_reads' HR1.out).1; have := HSZ.out; omega)).mono ?_); rw [HA.out]; rintro e w2 ⟨rfl, hb⟩; have HB2 := Aside0.mk hb; clear hb))
    go_roundg (gk - 1)
    case measure => have := HM.out; omega
    case rel => exact ⟨⟨⟨Kd.S_below HS1.out HB2.out⟩, ⟨grown_then (grown_trans HG.out HG1.out) HB2.out⟩⟩, .inr (.inr ⟨rfl, ⟨by have := HM.out; omega⟩, ⟨Kd.R_below HR1.out HB2.out⟩, HU, HA⟩)⟩
  ·go_wp2
   go_ret
   have e1 : boundsF l kids xs = (true, downF l kids (upF l kids xs)) := by unfold boundsF; rw [if_neg (by rw [HU.out]; decide), if_neg (by rw [HD.out]; decide)]
   rw [e1]
   exact ⟨rfl, HRR.out, HG.out⟩
open Go.Proofs.YtolmjhpapidmhaaH
theorem openL_len (l : List S44) : ∀ (k : Nat) (kids : List (List Int)) (m : Int → Option Int) (i : Int) (r : List (List Int)), openL l k kids m i = some r → r.length = kids.length := by
 intro k
 induction k with
 | zero => intro kids m i r h; simp only [openL, Option.some.injEq] at h; rw [h]
 | succ k ih =>
  intro kids m i r h
  simp only [openL] at h
  split at h
  ·cases h
  ·rw [ih _ _ _ _ h, addKid_len]
theorem openK_len {l : List S44} {kids : List (List Int)} (h : openK l = some kids) : kids.length = l.length := by
 have := openL_len l _ _ _ _ _ h
 rw [this, List.length_replicate]
theorem addKid_rd {kids : List (List Int)} {a : Option Int} {i : Int} (j : Int) : rdK (addKid kids a i) j = rdK kids j ∨ rdK (addKid kids a i) j = rdK kids j ++ [i] := by
 cases a with
 | none => exact .inl rfl
 | some av =>
  simp only [addKid, rdK, List.getD_eq_getElem?_getD]
  rw [List.getElem?_set]
  split
  ·rename_i h
   split
   ·exact .inr (by rw [h]; rfl)
   ·rename_i h2
    exact .inl (by rw [← h, List.getElem?_eq_none (by omega)])
  ·exact .inl rfl
theorem openL_ok (l : List S44) (n : Nat) : ∀ (k : Nat) (kids : List (List Int)) (m : Int → Option Int) (i : Int) (r : List (List Int)), openL l k kids m i = some r → 0 ≤ i → i + k = n →
  (∀ j, (rdK kids j).length ≤ i.toNat ∧ ∀ x ∈ rdK kids j, 0 ≤ x ∧ x < i) → ∀ j, (rdK r j).length ≤ n ∧ ∀ x ∈ rdK r j, 0 ≤ x ∧ x < n := by
 intro k
 induction k with
 | zero =>
  intro kids m i r h h0 hn hk j
  simp only [openL, Option.some.injEq] at h
  subst h
  have := hk j
  exact ⟨by omega, fun x hx => by have := this.2 x hx; omega⟩
 | succ k ih =>
  intro kids m i r h h0 hn hk
  simp only [openL] at h
  split at h
  ·cases h
  ·refine ih _ _ _ _ h (by omega) (by omega) (fun j => ?_)
   have h1 := hk j
   rcases addKid_rd (kids := kids) (a := m (rd_T44 l i).f1) (i := i) j with e | e
   ·rw [e]
    exact ⟨by omega, fun x hx => by have := h1.2 x hx; omega⟩
   ·rw [e]
    refine ⟨by rw [List.length_append]; simp; omega, fun x hx => ?_⟩
    rcases List.mem_append.1 hx with hx | hx
    ·have := h1.2 x hx; omega
    ·rw [List.mem_singleton] at hx; omega
theorem openK_ok {l : List S44} {kids : List (List Int)} (h : openK l = some kids) : KidsOk kids l.length := by
 refine ⟨openK_len h, openL_ok l l.length _ _ _ _ _ h (by omega) (by omega) (fun j => ?_)⟩
 have : rdK (List.replicate l.length []) j = [] := by
  simp only [rdK, List.getD_eq_getElem?_getD, List.getElem?_replicate]
  split <;> rfl
 rw [this]
 exact ⟨by simp, by simp⟩
theorem open_none (A0 : Option Addr) (c0 : Nat) (l0 : List (S44)) (w : World) (hr0 : Kd.C k44 w A0 l0.length l0) (hc0 : l0.length ≤ c0) (hsz : l0.length ≤ 5864062014805) (h : openK l0 = none) :
  Calls Try.prog 36 #[.slice A0 l0.length c0] w fun e w' => e = .returned (.tuple #[.agg #[.slice none 0 0, .slice none 0 0], .bool false]) ∧ Below w.heap.size w w' := by
 refine (open_calls A0 c0 l0 w hr0 hc0 hsz).mono ?_
 rintro e w' ⟨hb, ⟨_, he⟩ | ⟨kids, v, hk, _⟩⟩
 ·exact ⟨he, hb⟩
 ·rw [h] at hk
  cases hk
theorem open_some (A0 : Option Addr) (c0 : Nat) (l0 : List (S44)) (w : World) (hr0 : Kd.C k44 w A0 l0.length l0) (hc0 : l0.length ≤ c0) (hsz : l0.length ≤ 5864062014805) {kids : List (List Int)} (h : openK l0 = some kids) :
  Calls Try.prog 36 #[.slice A0 l0.length c0] w fun e w' => ∃ A2 c2, e = .returned (.tuple #[.agg #[.slice A0 l0.length c0, .slice A2 l0.length c2], .bool (decide (l0.length ≤ 200))]) ∧ Kd.S (Kd.slice 3 (Kd.int .i64)) 26 w' w.heap.size (fun _ => True) (.slice A2 l0.length c2) kids ∧ Below w.heap.size w w' := by
 refine (open_calls A0 c0 l0 w hr0 hc0 hsz).mono ?_
 rintro e w' ⟨hb, ⟨hn, _⟩ | ⟨kids', v, hk, he, hS⟩⟩
 ·rw [h] at hn
  cases hn
 ·rw [h] at hk
  injection hk with hk
  subst hk
  obtain ⟨A2, c2, rfl⟩ := Kd.S_slice hS
  rw [openK_len h] at he hS
  rw [show decide ((l0.length : Int) ≤ 200) = decide (l0.length ≤ 200) from decide_eq_decide.2 (by omega)] at he
  exact ⟨A2, c2, he, hS, hb⟩
end
section
open Go.Proofs.YtolmjhpapidmhaaH
def toI (r : S46) : S74 := ⟨r.f0, r.f1⟩
def toR (r : S74) : S46 := ⟨r.f0, r.f1⟩
def netOk (l : List S44) : Option (List (List Int)) := if l.length ≤ 200 then openK l else none
theorem fold_set {α : Type} (f : Nat → α) (x : List α) : ∀ (i : Nat), i ≤ x.length → (List.range i).foldl (fun y (j : Nat) => y.set j (f j)) x = (List.range i).map f ++ x.drop i := by
 intro i
 induction i with
 | zero => intro _; simp
 | succ i ih =>
  intro h
  rw [foldl_range_succ, ih (by omega), List.range_succ, List.map_append]
  rw [List.set_append_right _ _ (by simp)]
  simp only [List.length_map, List.length_range, Nat.sub_self, List.map_cons, List.map_nil, List.append_assoc]
  congr 1
  rw [List.drop_eq_getElem_cons (by omega)]
  rfl
theorem fold_map {α β : Type} (d : α) (f : α → β) (l : List α) : (List.range l.length).map (fun j => f (l.getD j d)) = l.map f := by
 apply List.ext_getElem
 ·simp
 ·intro i h1 h2
  simp only [List.length_map] at h2
  simp [List.getD_eq_getElem?_getD, h2]
theorem fold_len {α : Type} (f : Nat → α) (is : List Nat) : ∀ x : List α, (is.foldl (fun y (j : Nat) => y.set j (f j)) x).length = x.length := by
 induction is with
 | nil => intro x; rfl
 | cons i is ih => intro x; rw [List.foldl_cons, ih]; simp
theorem intervals_l0 (l : List S46) (hn : l.length ≤ 5864062014805) : ∀ (d k : Nat) (i : Nat) (x : List S74), i + d = l.length → d < k → x.length = l.length →
  flow_intervals.l0 k l x (l.length : Int) (i : Int) = some ((List.range' i d).foldl (fun y (j : Nat) => y.set j (toI (rd_T46 l j))) x) := by
 intro d
 induction d with
 | zero =>
  intro k i x hi hk hx
  obtain ⟨k, rfl⟩ : ∃ m, k = m + 1 := ⟨k - 1, by omega⟩
  simp only [flow_intervals.l0]
  rw [if_neg (by omega)]
  rfl
 | succ d ih =>
  intro k i x hi hk hx
  obtain ⟨k, rfl⟩ : ∃ m, k = m + 1 := ⟨k - 1, by omega⟩
  simp only [flow_intervals.l0]
  rw [if_pos (by omega), if_pos (by omega), if_pos (by omega), if_pos (by omega)]
  have hw : wrap64 ((i : Int) + 1) = ((i + 1 : Nat) : Int) := by unfold wrap64; omega
  rw [hw, ih k (i + 1) _ (by omega) (by omega) (by simp [hx])]
  rw [List.range'_succ, List.foldl_cons]
  rfl
theorem intervals_f (l : List S46) (hn : l.length ≤ 5864062014805) : flow_intervals.f (l.length + 1) l = some (l.map toI) := by
 unfold flow_intervals.f
 rw [if_pos (by omega), if_pos (by omega)]
 have := intervals_l0 l hn l.length (l.length + 1) 0 (List.replicate ((l.length : Int)).toNat z74) (by omega) (by omega) (by simp)
 rw [show ((0 : Nat) : Int) = 0 from rfl] at this
 rw [this, ← List.range_eq_range', fold_set _ _ _ (by simp), List.drop_of_length_le (by simp), List.append_nil]
 congr 1
 exact fold_map _ toI l
def boundsR (l0 : List S44) (l1 : List S46) : List S46 × Int :=
 match netOk l0 with
 | none => ([], 1)
 | some kids => if belongsB l0.length l1 = true then (if (boundsF l0 kids (l1.map toI)).1 = true then ((boundsF l0 kids (l1.map toI)).2.map toR, 0) else ([], 30)) else ([], 1)
def flow_Bounds.f (l0 : List S44) (l1 : List S46) : Option (List S46 × Int) := if l0.length ≤ 5864062014805 ∧ l1.length ≤ 140737488355328 then some (boundsR l0 l1) else none
theorem rg_elem {W : World} {base g n cap : Nat} {xs : List S46} (h : Kd.R k46 46 W base (fun _ => True) (.slice (some ⟨g, 0, none⟩) n cap) xs) (i : Int) (h0 : 0 ≤ i) (h1 : i < n) :
  (W.cell? ⟨g, i.toNat * 2, none⟩ = some (.int .i64 (rd_T46 xs i).f0) ∧ W.cell? ⟨g, i.toNat * 2 + 1, none⟩ = some (.int .i64 (rd_T46 xs i).f1)) ∧ (W.frozen? ⟨g, i.toNat * 2, none⟩ = false ∧ W.frozen? ⟨g, i.toNat * 2 + 1, none⟩ = false) ∧
   ∀ y : S46, Kd.R k46 46 ((W.setCell ⟨g, i.toNat * 2, none⟩ (.int .i64 y.f0)).setCell ⟨g, i.toNat * 2 + 1, none⟩ (.int .i64 y.f1)) base (fun _ => True) (.slice (some ⟨g, 0, none⟩) n cap) (xs.set i.toNat y) ∧
    W.grownBy ((W.setCell ⟨g, i.toNat * 2, none⟩ (.int .i64 y.f0)).setCell ⟨g, i.toNat * 2 + 1, none⟩ (.int .i64 y.f1)) (some g) := by
 obtain ⟨c, hcl, hM, hcc, hfr⟩ := Kd.R_elem h z46 i h0 h1
 obtain rfl := k46_openM hM
 have e : k46.sz = 2 := rfl
 refine ⟨⟨hcc 0 _ rfl, hcc 1 _ rfl⟩, ⟨hfr 0, hfr 1⟩, fun y => ?_⟩
 exact Kd.R_seg h i h0 h1 hcl hcc (seg := [.int .i64 y.f0, .int .i64 y.f1]) (j := 0) (show 0 + 2 ≤ 2 from Nat.le_refl _) (x' := y) (okp := fun _ => False) (k46_mkM _ _ _ y) (fun _ hk => hk.elim)
theorem flow_Bounds.calls (A0 : Option Addr) (c0 : Nat) (l0 : List (S44)) (A1 : Option Addr) (c1 : Nat) (l1 : List (S46)) (r1 : List (S46)) (r2 : Int) (w : World) (hr0 : Kd.C k44 w A0 l0.length l0) (hc0 : l0.length ≤ c0) (hr1 : Kd.C k46 w A1 l1.length l1) (hc1 : l1.length ≤ c1) (h : flow_Bounds.f l0 l1 = some (r1, r2)) :
  Calls Try.prog 22 #[.slice A0 l0.length c0, .slice A1 l1.length c1] w fun e w' => ∃ v0_ : Value, e = .returned (.tuple #[v0_, .int .i64 r2]) ∧ Kd.R k46 46 w' w.heap.size (fun _ => True) v0_ r1 ∧ Below w.heap.size w w' := by
 have hu67 := Try.underlying67
 have hu74 := Try.underlying74
 have hu46 := Try.underlying46
 unfold flow_Bounds.f at h
 by_cases hsz : l0.length ≤ 5864062014805 ∧ l1.length ≤ 140737488355328
 case neg =>
  rw [if_neg hsz] at h
  cases h
 rw [if_pos hsz] at h
 injection h with h
 have HSZ := Aside0.mk hsz.1
 have HSZ1 := Aside0.mk hsz.2
 have HR0 := Aside0.mk hr0
 have HC0 := Aside0.mk hc0
 have HR1 := Aside0.mk hr1
 have HC1 := Aside0.mk hc1
 clear hsz hr0 hc0 hr1 hc1
 have HB := Aside0.mk (Below.refl w.heap.size w)
 cases ho : openK l0 with
 | none =>
  have HO := Aside0.mk ho
  have e : boundsR l0 l1 = ([], 1) := by unfold boundsR netOk; rw [ho]; split <;> simp_all
  rw [e] at h
  injection h with e1 e2
  subst e1
  subst e2
  clear ho e
  go_enter Try.func22, Try.ntmps22
  go_wp2_with (first | (go_at_call 36; (with_reducible refine (open_none A0 c0 l0 _ HR0.out HC0.out HSZ.out HO.out).mono ?_); rintro e w1 ⟨rfl, hb⟩; have n0_ := Aside0.mk (below_step HB.out hb); clear HB hb; have HB := n0_; clear n0_) | ((with_reducible refine gate_dst (N := 6) rfl ?_); refine box_event ?hg (N := 6) ?hd (cs := #[.slice none 0 0, .slice none 0 0]) (t := 67) ?hr ?_; (case hd => rfl); (case hg => rfl); (case hr => first | (go_simp; done) | (go_simp; rfl)); intro gn hgn w3 hbn hb3; have hcn0 : w3.cell? ⟨gn, 0, none⟩ = some (.slice none 0 0) := (blk_cell hbn 0).trans rfl; have hcn1 : w3.cell? ⟨gn, 1, none⟩ = some (.slice none 0 0) := (blk_cell hbn 1).trans rfl; have hfn0 := blk_frozen hbn 0; have hfn1 := blk_frozen hbn 1; have BN := Aside0.mk hbn; have n0_ := Aside0.mk (below_step HB.out hb3); have GN := Aside0.mk (show w.heap.size ≤ gn by rw [hgn]; exact below_size HB.out); have GE := Aside0.mk hgn; (try have HK := Aside0.mk (Kd.S_below HK.out hb3)); clear HB hbn hb3 hgn; have HB := n0_; clear n0_) | ((with_reducible refine gate_store (t := 67) (p := 6) (v := .tmp 15) rfl ?_); refine store_event rfl (t := 67) (p := 6) (v := .tmp 15) rfl rfl (by first | (go_simp; done) | (go_simp; rfl)) ?_; intro w4 hw4; have BN4 := Aside0.mk (show w4.heap[gn]? = some (.cells #[.slice none 0 0, .slice none 0 0] 67 (0, 0)) by rw [hw4]; exact blk_put (blk_put BN.out 0 _ rfl) 1 _ rfl); have n0_ := Aside0.mk (show Below w.heap.size w w4 by rw [hw4]; exact below_set (below_set HB.out GN.out) GN.out); clear hw4 BN HB hcn0 hcn1 hfn0 hfn1; have HB := n0_; clear n0_; have hcn0 : w4.cell? ⟨gn, 0, none⟩ = some (.slice none 0 0) := (blk_cell BN4.out 0).trans rfl; have hcn1 : w4.cell? ⟨gn, 1, none⟩ = some (.slice none 0 0) := (blk_cell BN4.out 1).trans rfl))
  go_ret2
  exact ⟨_, rfl, Kd.R_nil _ _ _ _ _, HB.out⟩
 | some kids =>
  have HO := Aside0.mk ho
  by_cases hl : l0.length ≤ 200
  case neg =>
   have e : boundsR l0 l1 = ([], 1) := by unfold boundsR netOk; rw [if_neg hl]
   rw [e] at h
   injection h with e1 e2
   subst e1
   subst e2
   have d1 : decide (l0.length ≤ 200) = false := decide_eq_false hl
   clear ho hl e
   go_enter Try.func22, Try.ntmps22
   go_wp2_with (first | (go_at_call 36; (with_reducible refine (open_some A0 c0 l0 _ HR0.out HC0.out HSZ.out HO.out).mono ?_); rintro e w1 ⟨A2, c2, rfl, hS, hb⟩; have n0_ := Aside0.mk (below_step HB.out hb); have HK := Aside0.mk hS; clear HB hb hS; have HB := n0_; clear n0_) | ((with_reducible refine gate_dst (N := 6) rfl ?_); refine box_event ?hg (N := 6) ?hd (cs := #[.slice none 0 0, .slice none 0 0]) (t := 67) ?hr ?_; (case hd => rfl); (case hg => rfl); (case hr => first | (go_simp; done) | (go_simp; rfl)); intro gn hgn w3 hbn hb3; have hcn0 : w3.cell? ⟨gn, 0, none⟩ = some (.slice none 0 0) := (blk_cell hbn 0).trans rfl; have hcn1 : w3.cell? ⟨gn, 1, none⟩ = some (.slice none 0 0) := (blk_cell hbn 1).trans rfl; have hfn0 := blk_frozen hbn 0; have hfn1 := blk_frozen hbn 1; have BN := Aside0.mk hbn; have n0_ := Aside0.mk (below_step HB.out hb3); have GN := Aside0.mk (show w.heap.size ≤ gn by rw [hgn]; exact below_size HB.out); have GE := Aside0.mk hgn; (try have HK := Aside0.mk (Kd.S_below HK.out hb3)); clear HB hbn hb3 hgn; have HB := n0_; clear n0_) | ((with_reducible refine gate_store (t := 67) (p := 6) (v := .tmp 15) rfl ?_); refine store_event rfl (t := 67) (p := 6) (v := .tmp 15) rfl rfl (by first | (go_simp; done) | (go_simp; rfl)) ?_; intro w4 hw4; have BN4 := Aside0.mk (show w4.heap[gn]? = some (.cells #[.slice A0 l0.length c0, .slice A2 l0.length c2] 67 (0, 0)) by rw [hw4]; exact blk_put (blk_put BN.out 0 _ rfl) 1 _ rfl); have n0_ := Aside0.mk (show Below w.heap.size w w4 by rw [hw4]; exact below_set (below_set HB.out GN.out) GN.out); have HK := Aside0.mk (show Kd.S (Kd.slice 3 (Kd.int .i64)) 26 w4 w.heap.size (fun _ => True) (.slice A2 l0.length c2) kids by rw [hw4]; have ht := Kd.S_far (p := ⟨gn, 0, none⟩) (Kd.S_types HK.out BN.out (by decide)) (fun _ hk => hk.2) (.slice A0 l0.length c0); exact Kd.S_mono (Kd.S_far (p := ⟨gn, 1, none⟩) ht (fun _ hk => hk.2) (.slice A2 l0.length c2)) (fun _ hk => hk.1)); clear hw4 BN HB hcn0 hcn1 hfn0 hfn1; have HB := n0_; clear n0_; have hcn0 : w4.cell? ⟨gn, 0, none⟩ = some (.slice A0 l0.length c0) := (blk_cell BN4.out 0).trans rfl; have hcn1 : w4.cell? ⟨gn, 1, none⟩ = some (.slice A2 l0.length c2) := (blk_cell BN4.out 1).trans rfl))
   go_ret2
   exact ⟨_, rfl, Kd.R_nil _ _ _ _ _, HB.out⟩
  have d1 : decide (l0.length ≤ 200) = true := decide_eq_true hl
  cases hbel : belongsB l0.length l1 with
  | false =>
   have HBEL := Aside0.mk hbel
   have e : boundsR l0 l1 = ([], 1) := by unfold boundsR netOk; rw [if_pos hl, ho]; simp [hbel]
   rw [e] at h
   injection h with e1 e2
   subst e1
   subst e2
   clear ho hl hbel e
   go_enter Try.func22, Try.ntmps22
   go_wp2_with (first | (go_at_call 36; (with_reducible refine (open_some A0 c0 l0 _ HR0.out HC0.out HSZ.out HO.out).mono ?_); rintro e w1 ⟨A2, c2, rfl, hS, hb⟩; have n0_ := Aside0.mk (below_step HB.out hb); have HK := Aside0.mk hS; clear HB hb hS; have HB := n0_; clear n0_) | ((with_reducible refine gate_dst (N := 6) rfl ?_); refine box_event ?hg (N := 6) ?hd (cs := #[.slice none 0 0, .slice none 0 0]) (t := 67) ?hr ?_; (case hd => rfl); (case hg => rfl); (case hr => first | (go_simp; done) | (go_simp; rfl)); intro gn hgn w3 hbn hb3; have hcn0 : w3.cell? ⟨gn, 0, none⟩ = some (.slice none 0 0) := (blk_cell hbn 0).trans rfl; have hcn1 : w3.cell? ⟨gn, 1, none⟩ = some (.slice none 0 0) := (blk_cell hbn 1).trans rfl; have hfn0 := blk_frozen hbn 0; have hfn1 := blk_frozen hbn 1; have BN := Aside0.mk hbn; have n0_ := Aside0.mk (below_step HB.out hb3); have GN := Aside0.mk (show w.heap.size ≤ gn by rw [hgn]; exact below_size HB.out); have GE := Aside0.mk hgn; (try have HK := Aside0.mk (Kd.S_below HK.out hb3)); clear HB hbn hb3 hgn; have HB := n0_; clear n0_) | ((with_reducible refine gate_store (t := 67) (p := 6) (v := .tmp 15) rfl ?_); refine store_event rfl (t := 67) (p := 6) (v := .tmp 15) rfl rfl (by first | (go_simp; done) | (go_simp; rfl)) ?_; intro w4 hw4; have BN4 := Aside0.mk (show w4.heap[gn]? = some (.cells #[.slice A0 l0.length c0, .slice A2 l0.length c2] 67 (0, 0)) by rw [hw4]; exact blk_put (blk_put BN.out 0 _ rfl) 1 _ rfl); have n0_ := Aside0.mk (show Below w.heap.size w w4 by rw [hw4]; exact below_set (below_set HB.out GN.out) GN.out); have HK := Aside0.mk (show Kd.S (Kd.slice 3 (Kd.int .i64)) 26 w4 w.heap.size (fun _ => True) (.slice A2 l0.length c2) kids by rw [hw4]; have ht := Kd.S_far (p := ⟨gn, 0, none⟩) (Kd.S_types HK.out BN.out (by decide)) (fun _ hk => hk.2) (.slice A0 l0.length c0); exact Kd.S_mono (Kd.S_far (p := ⟨gn, 1, none⟩) ht (fun _ hk => hk.2) (.slice A2 l0.length c2)) (fun _ hk => hk.1)); clear hw4 BN HB hcn0 hcn1 hfn0 hfn1; have HB := n0_; clear n0_; have hcn0 : w4.cell? ⟨gn, 0, none⟩ = some (.slice A0 l0.length c0) := (blk_cell BN4.out 0).trans rfl; have hcn1 : w4.cell? ⟨gn, 1, none⟩ = some (.slice A2 l0.length c2) := (blk_cell BN4.out 1).trans rfl) | (go_at_call 37; (with_reducible refine (belongs_calls A0 l0.length c0 A2 l0.length c2 A1 c1 l1 _ (Kd.C_below HR1.out HB.out) HC1.out (by have := HSZ1.out; omega) (by have := HSZ.out; omega)).mono ?_); rw [HBEL.out]; rintro e w5 ⟨rfl, hb⟩; have n0_ := Aside0.mk (below_step HB.out hb); have HK := Aside0.mk (Kd.S_below HK.out hb); replace hcn0 := (hb.cell (World.block_lt_of_cell? _ _ hcn0)).trans hcn0; replace hcn1 := (hb.cell (World.block_lt_of_cell? _ _ hcn1)).trans hcn1; have BN4 := Aside0.mk (blk_below BN4.out hb); clear HB hb; have HB := n0_; clear n0_))
   go_ret2
   exact ⟨_, rfl, Kd.R_nil _ _ _ _ _, HB.out⟩
  | true =>
   have HBEL := Aside0.mk hbel
   have HLL := Aside0.mk (show l1.length = l0.length by unfold belongsB at hbel; simp at hbel; exact hbel.1)
   obtain ⟨r, hrr⟩ : ∃ r, r = l1.map toI := ⟨_, rfl⟩
   have HRL := Aside0.mk (show r.length = l0.length by rw [hrr, List.length_map, HLL.out])
   have HKO := Aside0.mk (openK_ok ho)
   cases hbo : (boundsF l0 kids r).1 with
   | false =>
    have HBO := Aside0.mk hbo
    have e : boundsR l0 l1 = ([], 30) := by unfold boundsR netOk; rw [if_pos hl, ho]; simp only []; rw [if_pos hbel, ← hrr, if_neg (by rw [hbo]; decide)]
    rw [e] at h
    injection h with e1 e2
    subst e1
    subst e2
    have HI := Aside0.mk (hrr ▸ intervals_f l1 (by have := HLL.out; have := HSZ.out; omega))
    clear ho hl hbel hbo e
    go_enter Try.func22, Try.ntmps22
    go_wp2_with (first | (go_at_call 36; (with_reducible refine (open_some A0 c0 l0 _ HR0.out HC0.out HSZ.out HO.out).mono ?_); rintro e w1 ⟨A2, c2, rfl, hS, hb⟩; have n0_ := Aside0.mk (below_step HB.out hb); have HK := Aside0.mk hS; clear HB hb hS; have HB := n0_; clear n0_) | ((with_reducible refine gate_dst (N := 6) rfl ?_); refine box_event ?hg (N := 6) ?hd (cs := #[.slice none 0 0, .slice none 0 0]) (t := 67) ?hr ?_; (case hd => rfl); (case hg => rfl); (case hr => first | (go_simp; done) | (go_simp; rfl)); intro gn hgn w3 hbn hb3; have hcn0 : w3.cell? ⟨gn, 0, none⟩ = some (.slice none 0 0) := (blk_cell hbn 0).trans rfl; have hcn1 : w3.cell? ⟨gn, 1, none⟩ = some (.slice none 0 0) := (blk_cell hbn 1).trans rfl; have hfn0 := blk_frozen hbn 0; have hfn1 := blk_frozen hbn 1; have BN := Aside0.mk hbn; have n0_ := Aside0.mk (below_step HB.out hb3); have GN := Aside0.mk (show w.heap.size ≤ gn by rw [hgn]; exact below_size HB.out); have GE := Aside0.mk hgn; (try have HK := Aside0.mk (Kd.S_below HK.out hb3)); clear HB hbn hb3 hgn; have HB := n0_; clear n0_) | ((with_reducible refine gate_store (t := 67) (p := 6) (v := .tmp 15) rfl ?_); refine store_event rfl (t := 67) (p := 6) (v := .tmp 15) rfl rfl (by first | (go_simp; done) | (go_simp; rfl)) ?_; intro w4 hw4; have BN4 := Aside0.mk (show w4.heap[gn]? = some (.cells #[.slice A0 l0.length c0, .slice A2 l0.length c2] 67 (0, 0)) by rw [hw4]; exact blk_put (blk_put BN.out 0 _ rfl) 1 _ rfl); have n0_ := Aside0.mk (show Below w.heap.size w w4 by rw [hw4]; exact below_set (below_set HB.out GN.out) GN.out); have HK := Aside0.mk (show Kd.S (Kd.slice 3 (Kd.int .i64)) 26 w4 w.heap.size (fun _ => True) (.slice A2 l0.length c2) kids by rw [hw4]; have ht := Kd.S_far (p := ⟨gn, 0, none⟩) (Kd.S_types HK.out BN.out (by decide)) (fun _ hk => hk.2) (.slice A0 l0.length c0); exact Kd.S_mono (Kd.S_far (p := ⟨gn, 1, none⟩) ht (fun _ hk => hk.2) (.slice A2 l0.length c2)) (fun _ hk => hk.1)); clear hw4 BN HB hcn0 hcn1 hfn0 hfn1; have HB := n0_; clear n0_; have hcn0 : w4.cell? ⟨gn, 0, none⟩ = some (.slice A0 l0.length c0) := (blk_cell BN4.out 0).trans rfl; have hcn1 : w4.cell? ⟨gn, 1, none⟩ = some (.slice A2 l0.length c2) := (blk_cell BN4.out 1).trans rfl) | (go_at_call 37; (with_reducible refine (belongs_calls A0 l0.length c0 A2 l0.length c2 A1 c1 l1 _ (Kd.C_below HR1.out HB.out) HC1.out (by have := HSZ1.out; omega) (by have := HSZ.out; omega)).mono ?_); rw [HBEL.out]; rintro e w5 ⟨rfl, hb⟩; have n0_ := Aside0.mk (below_step HB.out hb); have HK := Aside0.mk (Kd.S_below HK.out hb); replace hcn0 := (hb.cell (World.block_lt_of_cell? _ _ hcn0)).trans hcn0; replace hcn1 := (hb.cell (World.block_lt_of_cell? _ _ hcn1)).trans hcn1; have BN4 := Aside0.mk (blk_below BN4.out hb); clear HB hb; have HB := n0_; clear n0_) | (go_at_call 38; (with_reducible refine (flow_intervals.calls (l1.length + 1) A1 c1 l1 r _ (Kd.C_below HR1.out HB.out) HC1.out HI.out).mono ?_); rintro e w6 ⟨v6, rfl, hR, hb⟩; obtain ⟨A3, c3, rfl⟩ := Kd.R_slice hR; rw [HRL.out] at hR; have n0_ := Aside0.mk (below_step HB.out hb); have HRV := Aside0.mk (Kd.R_lower hR (below_size HB.out)); have HK := Aside0.mk (Kd.S_below HK.out hb); replace hcn0 := (hb.cell (World.block_lt_of_cell? _ _ hcn0)).trans hcn0; replace hcn1 := (hb.cell (World.block_lt_of_cell? _ _ hcn1)).trans hcn1; have BN4 := Aside0.mk (blk_below BN4.out hb); rw [HRL.out]; clear HB hb hR; have HB := n0_; clear n0_) | (go_at_call 39; (with_reducible refine (bounds_calls w _ A0 c0 l0 A2 c2 kids A3 c3 r HB.out HR0.out HC0.out HSZ.out HK.out HKO.out HRV.out HRL.out).mono ?_); rw [HBO.out]; rintro e w7 ⟨rfl, hR, hg⟩; have n0_ := Aside0.mk (grown_below HB.out hg (Kd.R_base HRV.out)); have HRV := Aside0.mk (by first | (rw [← HBB.out] at hR; exact hR) | exact hR); clear HB hg hR; have HB := n0_; clear n0_))
    go_ret2
    exact ⟨_, rfl, Kd.R_nil _ _ _ _ _, HB.out⟩
   | true =>
    have HBO := Aside0.mk hbo
    obtain ⟨b, hb_⟩ : ∃ b, b = (boundsF l0 kids r).2 := ⟨_, rfl⟩
    have HBL := Aside0.mk (show b.length = l0.length by rw [hb_, boundsF_len, HRL.out])
    have e : boundsR l0 l1 = (b.map toR, 0) := by unfold boundsR netOk; rw [if_pos hl, ho]; simp only []; rw [if_pos hbel, ← hrr, if_pos hbo, hb_]
    rw [e] at h
    injection h with e1 e2
    subst e1
    subst e2
    have HI := Aside0.mk (hrr ▸ intervals_f l1 (by have := HLL.out; have := HSZ.out; omega))
    have HBB := Aside0.mk hb_
    clear ho hl hbel hbo e hrr hb_
    go_enter Try.func22, Try.ntmps22
    go_wp2_with (first | (go_at_call 36; (with_reducible refine (open_some A0 c0 l0 _ HR0.out HC0.out HSZ.out HO.out).mono ?_); rintro e w1 ⟨A2, c2, rfl, hS, hb⟩; have n0_ := Aside0.mk (below_step HB.out hb); have HK := Aside0.mk hS; clear HB hb hS; have HB := n0_; clear n0_) | ((with_reducible refine gate_dst (N := 6) rfl ?_); refine box_event ?hg (N := 6) ?hd (cs := #[.slice none 0 0, .slice none 0 0]) (t := 67) ?hr ?_; (case hd => rfl); (case hg => rfl); (case hr => first | (go_simp; done) | (go_simp; rfl)); intro gn hgn w3 hbn hb3; have hcn0 : w3.cell? ⟨gn, 0, none⟩ = some (.slice none 0 0) := (blk_cell hbn 0).trans rfl; have hcn1 : w3.cell? ⟨gn, 1, none⟩ = some (.slice none 0 0) := (blk_cell hbn 1).trans rfl; have hfn0 := blk_frozen hbn 0; have hfn1 := blk_frozen hbn 1; have BN := Aside0.mk hbn; have n0_ := Aside0.mk (below_step HB.out hb3); have GN := Aside0.mk (show w.heap.size ≤ gn by rw [hgn]; exact below_size HB.out); have GE := Aside0.mk hgn; (try have HK := Aside0.mk (Kd.S_below HK.out hb3)); clear HB hbn hb3 hgn; have HB := n0_; clear n0_) | ((with_reducible refine gate_store (t := 67) (p := 6) (v := .tmp 15) rfl ?_); refine store_event rfl (t := 67) (p := 6) (v := .tmp 15) rfl rfl (by first | (go_simp; done) | (go_simp; rfl)) ?_; intro w4 hw4; have BN4 := Aside0.mk (show w4.heap[gn]? = some (.cells #[.slice A0 l0.length c0, .slice A2 l0.length c2] 67 (0, 0)) by rw [hw4]; exact blk_put (blk_put BN.out 0 _ rfl) 1 _ rfl); have n0_ := Aside0.mk (show Below w.heap.size w w4 by rw [hw4]; exact below_set (below_set HB.out GN.out) GN.out); have HK := Aside0.mk (show Kd.S (Kd.slice 3 (Kd.int .i64)) 26 w4 w.heap.size (fun _ => True) (.slice A2 l0.length c2) kids by rw [hw4]; have ht := Kd.S_far (p := ⟨gn, 0, none⟩) (Kd.S_types HK.out BN.out (by decide)) (fun _ hk => hk.2) (.slice A0 l0.length c0); exact Kd.S_mono (Kd.S_far (p := ⟨gn, 1, none⟩) ht (fun _ hk => hk.2) (.slice A2 l0.length c2)) (fun _ hk => hk.1)); clear hw4 BN HB hcn0 hcn1 hfn0 hfn1; have HB := n0_; clear n0_; have hcn0 : w4.cell? ⟨gn, 0, none⟩ = some (.slice A0 l0.length c0) := (blk_cell BN4.out 0).trans rfl; have hcn1 : w4.cell? ⟨gn, 1, none⟩ = some (.slice A2 l0.length c2) := (blk_cell BN4.out 1).trans rfl) | (go_at_call 37; (with_reducible refine (belongs_calls A0 l0.length c0 A2 l0.length c2 A1 c1 l1 _ (Kd.C_below HR1.out HB.out) HC1.out (by have := HSZ1.out; omega) (by have := HSZ.out; omega)).mono ?_); rw [HBEL.out]; rintro e w5 ⟨rfl, hb⟩; have n0_ := Aside0.mk (below_step HB.out hb); have HK := Aside0.mk (Kd.S_below HK.out hb); replace hcn0 := (hb.cell (World.block_lt_of_cell? _ _ hcn0)).trans hcn0; replace hcn1 := (hb.cell (World.block_lt_of_cell? _ _ hcn1)).trans hcn1; have BN4 := Aside0.mk (blk_below BN4.out hb); clear HB hb; have HB := n0_; clear n0_) | (go_at_call 38; (with_reducible refine (flow_intervals.calls (l1.length + 1) A1 c1 l1 r _ (Kd.C_below HR1.out HB.out) HC1.out HI.out).mono ?_); rintro e w6 ⟨v6, rfl, hR, hb⟩; obtain ⟨A3, c3, rfl⟩ := Kd.R_slice hR; rw [HRL.out] at hR; have n0_ := Aside0.mk (below_step HB.out hb); have HRV := Aside0.mk (Kd.R_lower hR (below_size HB.out)); have HK := Aside0.mk (Kd.S_below HK.out hb); replace hcn0 := (hb.cell (World.block_lt_of_cell? _ _ hcn0)).trans hcn0; replace hcn1 := (hb.cell (World.block_lt_of_cell? _ _ hcn1)).trans hcn1; have BN4 := Aside0.mk (blk_below BN4.out hb); rw [HRL.out]; clear HB hb hR; have HB := n0_; clear n0_) | (go_at_call 39; (with_reducible refine (bounds_calls w _ A0 c0 l0 A2 c2 kids A3 c3 r HB.out HR0.out HC0.out HSZ.out HK.out HKO.out HRV.out HRL.out).mono ?_); rw [HBO.out]; rintro e w7 ⟨rfl, hR, hg⟩; have n0_ := Aside0.mk (grown_below HB.out hg (Kd.R_base HRV.out)); have HRV := Aside0.mk (by first | (rw [← HBB.out] at hR; exact hR) | exact hR); clear HB hg hR; have HB := n0_; clear n0_) | ((with_reducible refine gate_dst (N := 33) rfl ?_); refine Kd.R_make k46 _ 46 rfl (N := 33) rfl 23 _ _ rfl (l0.length : Int) rfl rfl Try.underlying23 (.agg #[(.int .i64 0), (.int .i64 0)]) 16 info46 rfl (by decide) (by omega) z46 (ok := fun _ => True) (okp := fun _ => True) (k46_mkM _ _ _ z46) (fun _ hk => hk) trivial (by omega) (by have := HSZ.out; omega) (Below.refl _ _) (Nat.le_refl _) ?_; intro v1 w8 ho hb hg_ hnew_; have n0_ := Aside0.mk (below_step HB.out hb); have HO8 := Aside0.mk (Kd.R_lower ho (below_size HB.out)); have HRV := Aside0.mk (Kd.R_below HRV.out hb); clear HB hb ho hg_ hnew_; have HB := n0_; clear n0_))
    obtain ⟨Ao, co, eo⟩ := Kd.R_slice HO8.out
    subst eo
    rw [List.length_replicate, Int.toNat_natCast] at *
    go_loopg [36] l0.length (fun kq v36 wr => ∃ (i : Nat) (y : List S46), v36 = .int .i64 i ∧ Aside0 (kq + i = l0.length) ∧ Aside0 (y = (List.range i).foldl (fun y (j : Nat) => y.set j (toR (b.getD j z74))) (List.replicate l0.length z46)) ∧ Aside0 (Kd.R k46 46 wr w.heap.size (fun _ => True) (.slice Ao l0.length co) y) ∧ Aside0 (Kd.R k74 74 wr w.heap.size (fun _ => True) (.slice A3 l0.length c3) b) ∧ Aside0 (Below w.heap.size w wr))
    case atStart => exact ⟨0, _, rfl, ⟨by omega⟩, ⟨rfl⟩, HO8, HRV, HB⟩
    case round =>
     clear HO8 HRV HB BN4 HK hcn0 hcn1
     obtain ⟨n, y, rfl, HM, HY, HRY, HRV, HB⟩ := hrel
     have HYL := Aside0.mk (show y.length = l0.length by rw [HY.out, fold_len, List.length_replicate])
     by_cases hlt : n < l0.length
     ·obtain ⟨i, hi⟩ : ∃ i : Int, i = (n : Int) := ⟨_, rfl⟩
      rw [← hi]
      have HI2 := Aside0.mk (show 0 ≤ i ∧ i < l0.length ∧ i = (n : Int) from ⟨by omega, by omega, hi⟩)
      have d2 : decide (i < (l0.length : Int)) = true := decide_eq_true HI2.out.2.1
      have ci2 : (0 ≤ i) = True := eq_true HI2.out.1
      have ci3 : (i < l0.length) = True := eq_true HI2.out.2.1
      obtain ⟨adb, eb, hx0, hx1⟩ := at_T74 (Kd.R_reads' HRV.out).2.2 i HI2.out.1 (by have := HI2.out; have := HBL.out; omega)
      subst eb
      obtain ⟨go, cgo, eo, gob, gol, ogl, hogl⟩ := Kd.R_form HRY.out (by have := HI2.out; have := HYL.out; omega)
      injection eo with ea en ec
      subst ea
      subst ec
      have HGC := Aside0.mk hogl
      have HGB := Aside0.mk gob
      clear hi hlt en gob gol hogl
      have hz1 : i + 1 ≤ 9223372036854775807 := by have := HI2.out; have := HSZ.out; omega
      have hz2 : -9223372036854775808 ≤ i + 1 := by have := HI2.out; omega
      go_upto_region 11 with (first | ((with_reducible refine gate_dst (N := 11) rfl ?_); refine box_event ?hg (N := 11) ?hd (cs := #[.int .i64 0, .int .i64 0]) (t := 74) ?hr ?_; (case hd => rfl); (case hg => rfl); (case hr => first | (go_simp; done) | (go_simp; rfl)); intro gx hgx w9 hbx hb; have hcx0 : w9.cell? ⟨gx, 0, none⟩ = some (.int .i64 0) := (blk_cell hbx 0).trans rfl; have hcx1 : w9.cell? ⟨gx, 1, none⟩ = some (.int .i64 0) := (blk_cell hbx 1).trans rfl; have hfx0 := blk_frozen hbx 0; have hfx1 := blk_frozen hbx 1; have BX := Aside0.mk hbx; have GX := Aside0.mk hgx; have HB9 := Aside0.mk hb; clear hbx hgx hb))
      obtain ⟨w10, hw10⟩ : ∃ w10, w10 = (w9.setCell ⟨gx, 0, none⟩ (.int .i64 (rd_T74 b i).f0)).setCell ⟨gx, 1, none⟩ (.int .i64 (rd_T74 b i).f1) := ⟨_, rfl⟩
      rw [← hw10]
      have hbx2 : w10.heap[gx]? = some (.cells #[.int .i64 (rd_T74 b i).f0, .int .i64 (rd_T74 b i).f1] 74 (0, 0)) := by rw [hw10]; exact blk_put2 BX.out _ _
      have HB10 := Aside0.mk (below_new2 GX.out HB9.out hw10)
      clear hcx0 hcx1 hfx0 hfx1
      have hcx0 : w10.cell? ⟨gx, 0, none⟩ = some (.int .i64 (rd_T74 b i).f0) := (blk_cell hbx2 0).trans rfl
      have hcx1 : w10.cell? ⟨gx, 1, none⟩ = some (.int .i64 (rd_T74 b i).f1) := (blk_cell hbx2 1).trans rfl
      have HRY10 := Aside0.mk (Kd.R_below HRY.out HB10.out)
      have HRV10 := Aside0.mk (Kd.R_below HRV.out HB10.out)
      have HE10 := Aside0.mk (rg_elem HRY10.out i HI2.out.1 HI2.out.2.1)
      have hxz0 := HE10.out.1.1
      have hxz1 := HE10.out.1.2
      have hfz0 := HE10.out.2.1.1
      have hfz1 := HE10.out.2.1.2
      clear hw10 hbx2
      go_wp2
      have hP := HE10.out.2.2 (toR (rd_T74 b i))
      have hg := HB10.out
      go_roundg (gk - 1)
      case measure => have := HM.out; have := HI2.out; omega
      case rel =>
       refine ⟨n + 1, _, ?_, ⟨by have := HM.out; have := HI2.out; omega⟩, ⟨?_⟩, ⟨hP.1⟩, ⟨Kd.R_mono (Kd.R_grown (Kd.R_types HRV10.out (blk_below HGC.out HB10.out) (by decide)) hP.2 (fun k hk e => hk.2 (by cases e; rfl))) (fun _ hk => hk.1)⟩, ⟨below_set (below_set (below_step HB.out HB10.out) HGB.out) HGB.out⟩⟩
       ·have := HI2.out
        first | (rw [show ((n + 1 : Nat) : Int) = i + 1 from by omega]; done) | (simp; omega)
       ·rw [foldl_range_succ, ← HY.out]
        rw [show i.toNat = n by have := HI2.out; omega]
        show y.set n (toR (b.getD i.toNat z74)) = _
        rw [show i.toNat = n by have := HI2.out; omega]
     ·have d2 : decide ((n : Int) < (l0.length : Int)) = false := decide_eq_false (by omega)
      have d2' : decide (n < l0.length) = false := decide_eq_false hlt
      have HNL := Aside0.mk (show n = l0.length by have := HM.out; omega)
      clear hlt
      go_wp2
      go_ret2
      refine ⟨_, rfl, ?_, HB.out⟩
      have e1 : y = b.map toR := by
       rw [HY.out, HNL.out, fold_set _ _ _ (by simp), List.drop_of_length_le (by simp), List.append_nil, ← HBL.out]
       exact fold_map _ toR b
      rw [← e1]
      exact HRY.out
end
section
open Go.Proofs.YtolmjhpapidmhaaH
def isAb (k : Int) (q : S44) : Bool := q.f1 == k
theorem isAb_calls (x0 x1 x2 : Int) (g : Nat) (k A L : Int) (b : Bool) (w : World) (hq : w.heap[g]? = some (.cells #[.int .i64 k, .int .i64 A, .int .i64 L] 44 (0, 0))) (h : isAb k ⟨x0, x1, x2⟩ = b) :
  Calls Try.prog 43 #[.agg #[.int .i64 x0, .int .i64 x1, .int .i64 x2], .pointer (some ⟨g, 0, none⟩)] w fun e w' => e = .returned (.bool b) ∧ Below w.heap.size w w' := by
 have hu44 := Try.underlying44
 have HB := Aside0.mk (Below.refl w.heap.size w)
 have hcq : w.cell? ⟨g, 0, none⟩ = some (.int .i64 k) := (blk_cell hq 0).trans rfl
 clear hq
 have h2 : (x1 == k) = b := h
 clear h
 go_enter Try.func43, Try.ntmps43
 go_wp2_with (first | ((with_reducible refine gate_dst (N := 2) rfl ?_); refine box_event ?hg (N := 2) ?hd (cs := #[.int .i64 x0, .int .i64 x1, .int .i64 x2]) (t := 44) ?hr ?_; (case hd => rfl); (case hg => rfl); (case hr => first | (go_simp; done) | (go_simp; rfl)); intro gb hg_P wb hbox_ hb_; have n0_ := Aside0.mk (below_step HB.out hb_); have BP := Aside0.mk hbox_; have GP := Aside0.mk (show w.heap.size ≤ gb by rw [hg_P]; exact below_size HB.out); have EP := Aside0.mk hg_P; have hcP0 : wb.cell? ⟨gb, 0, none⟩ = some (.int .i64 x0) := (blk_cell hbox_ 0).trans rfl; have hfP0 := blk_frozen hbox_ 0; have hcP1 : wb.cell? ⟨gb, 1, none⟩ = some (.int .i64 x1) := (blk_cell hbox_ 1).trans rfl; have hfP1 := blk_frozen hbox_ 1; have hcP2 : wb.cell? ⟨gb, 2, none⟩ = some (.int .i64 x2) := (blk_cell hbox_ 2).trans rfl; have hfP2 := blk_frozen hbox_ 2; replace hcq := (hb_.cell (World.block_lt_of_cell? _ _ hcq)).trans hcq; clear HB hg_P hbox_ hb_; have HB := n0_; clear n0_))
 go_ret
 exact ⟨by first | rfl | (rw [← h2]; rfl), HB.out⟩
def idxB44 (p : S44 → Bool) (l : List S44) : Int := match l.findIdx? p with | some i => i | none => -1
theorem idxB44_some (p : S44 → Bool) (l : List S44) (i : Int) (h0 : 0 ≤ i) (h1 : i < l.length) (hp : p (rd_T44 l i) = true) (hb : ∀ j : Nat, j < i.toNat → p (rd_T44 l j) = false) : idxB44 p l = i := by
 have h' : i.toNat < l.length := by omega
 have hf : l.findIdx? p = some i.toNat := by
  rw [List.findIdx?_eq_some_iff_getElem]
  refine ⟨h', ?_, fun j hj => ?_⟩
  ·have := hp
   simpa [rd_T44, List.getD_eq_getElem?_getD, h'] using this
  ·have := hb j hj
   have hj' : j < l.length := by omega
   simpa [rd_T44, List.getD_eq_getElem?_getD, hj'] using this
 unfold idxB44
 rw [hf]
 show ((i.toNat : Nat) : Int) = i
 omega
theorem idxB44_none (p : S44 → Bool) (l : List S44) (hb : ∀ j : Nat, j < l.length → p (rd_T44 l j) = false) : idxB44 p l = -1 := by
 have hf : l.findIdx? p = none := by
  rw [List.findIdx?_eq_none_iff]
  intro x hx
  obtain ⟨j, hj, rfl⟩ := List.mem_iff_getElem.1 hx
  have := hb j hj
  simpa [rd_T44, List.getD_eq_getElem?_getD, hj] using this
 unfold idxB44
 rw [hf]
theorem idxB44_any (p : S44 → Bool) (l : List S44) : decide (idxB44 p l ≥ 0) = l.any p := by
 unfold idxB44
 cases h : l.findIdx? p with
 | none =>
  rw [List.findIdx?_eq_none_iff] at h
  rw [show decide (((match (none : Option Nat) with | some i => (i : Int) | none => (-1 : Int)) : Int) ≥ 0) = false from rfl]
  symm
  rw [List.any_eq_false]
  intro x hx
  simp [h x hx]
 | some i =>
  obtain ⟨h1, h2, _⟩ := List.findIdx?_eq_some_iff_getElem.1 h
  rw [show decide (((match (some i : Option Nat) with | some i => (i : Int) | none => (-1 : Int)) : Int) ≥ 0) = true from decide_eq_true (Int.natCast_nonneg i)]
  symm
  rw [List.any_eq_true]
  exact ⟨_, List.getElem_mem h1, h2⟩
theorem above_index (A0 : Option Addr) (c0 : Nat) (l0 : List (S44)) (w : World) (hr0 : Kd.C k44 w A0 l0.length l0) (hc0 : l0.length ≤ c0) (hn : l0.length ≤ 140737488355328) (gq : Nat) (kk aa ll : Int) (hq : w.heap[gq]? = some (.cells #[.int .i64 kk, .int .i64 aa, .int .i64 ll] 44 (0, 0))) :
 Calls Try.prog 57 #[.slice A0 l0.length c0, .func (.func 43) #[] #[.pointer (some ⟨gq, 0, none⟩)]] w fun e w' => e = .returned (.int .i64 (idxB44 (isAb kk) l0)) ∧ Below w.heap.size w w' := by
 have hu44 := Try.underlying44
 have HR0 := Aside0.mk hr0
 have HC0 := Aside0.mk hc0
 have HN := Aside0.mk hn
 clear hr0 hc0 hn
 have HQ := Aside0.mk hq
 clear hq
 have HB := Aside0.mk (Below.refl w.heap.size w)
 go_enter Try.func57, Try.ntmps57
 go_wp2
 go_loopg [8] l0.length (fun kq v8 w' => ∃ (i : Int), v8 = .int .i64 i ∧ Aside0 (∀ j : Nat, j < i.toNat → (isAb kk) (rd_T44 l0 j) = false) ∧ Aside0 (0 ≤ i ∧ kq + i.toNat = l0.length) ∧ Aside0 (Below w.heap.size w w'))
 case atStart => exact ⟨0, rfl, ⟨fun j hj => by simp at hj⟩, ⟨by simp⟩, HB⟩
 case round =>
  obtain ⟨i, rfl, HS, HK, HB⟩ := hrel
  by_cases hlt : i < l0.length
  ·have c1 : decide ((i:Int) < (l0.length : Int)) = true := decide_eq_true hlt
   have c2 : (0 ≤ i) = True := eq_true HK.out.1
   have c3 : (i < l0.length) = True := eq_true hlt
   obtain ⟨ad, e, hx0, hx1, hx2⟩ := at_T44 HR0.out i HK.out.1 hlt
   cases e
   replace hx0 := (HB.out.cell (World.block_lt_of_cell? w _ hx0)).trans hx0
   replace hx1 := (HB.out.cell (World.block_lt_of_cell? w _ hx1)).trans hx1
   replace hx2 := (HB.out.cell (World.block_lt_of_cell? w _ hx2)).trans hx2
   have HL := Aside0.mk hlt
   clear hlt
   have hw1 : i + 1 ≤ 9223372036854775807 := by have := HN.out; have := HL.out; omega
   have hw2 : 0 ≤ i + 1 := by have := HK.out; omega
   cases hp : (isAb kk) (rd_T44 l0 i) with
   | true =>
    have HP := Aside0.mk hp
    clear hp
    go_wp2_with (first | ((with_reducible refine (isAb_calls (rd_T44 l0 i).f0 (rd_T44 l0 i).f1 (rd_T44 l0 i).f2 gq kk aa ll _ _ (blk_below HQ.out HB.out) HP.out).mono ?_); rintro e w1 ⟨rfl, hb⟩; have HB1 := Aside0.mk hb; clear hb))
    go_ret
    refine ⟨?_, HB.out.trans (HB1.out.mono HB.out.size)⟩
    rw [idxB44_some _ _ i HK.out.1 HL.out HP.out HS.out]
    first | rfl | (simp; done)
   | false =>
    have HP := Aside0.mk hp
    clear hp
    go_wp2_with (first | ((with_reducible refine (isAb_calls (rd_T44 l0 i).f0 (rd_T44 l0 i).f1 (rd_T44 l0 i).f2 gq kk aa ll _ _ (blk_below HQ.out HB.out) HP.out).mono ?_); rintro e w1 ⟨rfl, hb⟩; have HB1 := Aside0.mk hb; clear hb))
    go_roundg (gk - 1)
    case measure => have := HK.out; have := HL.out; omega
    case rel =>
     refine ⟨i + 1, ?_, ⟨fun j hj => ?_⟩, ⟨by have := HK.out; have := HL.out; omega⟩, ⟨HB.out.trans (HB1.out.mono HB.out.size)⟩⟩
     ·first | rfl | (simp; done)
     ·by_cases hji : j < i.toNat
      ·exact HS.out j hji
      ·have : (j : Int) = i := by have := HK.out; omega
       rw [this]
       exact HP.out
  ·have c1 : decide ((i:Int) < (l0.length : Int)) = false := decide_eq_false hlt
   have HL := Aside0.mk hlt
   clear hlt
   go_wp2
   go_ret
   refine ⟨?_, HB.out⟩
   rw [idxB44_none _ _ (fun j hj => HS.out j (by have := HK.out; have := HL.out; omega))]
   first | rfl | (simp; done)
theorem above_contains (A0 : Option Addr) (c0 : Nat) (l0 : List (S44)) (w : World) (hr0 : Kd.C k44 w A0 l0.length l0) (hc0 : l0.length ≤ c0) (hn : l0.length ≤ 140737488355328) (gq : Nat) (kk aa ll : Int) (hq : w.heap[gq]? = some (.cells #[.int .i64 kk, .int .i64 aa, .int .i64 ll] 44 (0, 0))) :
 Calls Try.prog 42 #[.slice A0 l0.length c0, .func (.func 43) #[] #[.pointer (some ⟨gq, 0, none⟩)]] w fun e w' => e = .returned (.bool (l0.any (isAb kk))) ∧ Below w.heap.size w w' := by
 have HR0 := Aside0.mk hr0
 clear hr0
 go_enter Try.func42, Try.ntmps42
 go_wp2_with (first | ((with_reducible refine (above_index _ _ l0 _ HR0.out hc0 hn gq kk aa ll hq).mono ?_); rintro e w1 ⟨rfl, hb⟩; have HB1 := Aside0.mk hb; clear hb))
 go_ret
 refine ⟨?_, HB1.out⟩
 rw [← idxB44_any]
 first | rfl | (simp; done)
def houseE (l : List S44) (known : List S46) (most : Int) : Int := if (boundsR l known).2 = 1 ∨ most < 0 ∨ 3 < most then 1 else if 40 < l.length then 2 else 0
def parN (l : List S44) (n : Nat) : List Int := (List.range n).foldl (fun ps (j : Nat) => if l.any (isAb (rd_T44 l j).f0) = true then ps ++ [(j : Int)] else ps) []
theorem parN_succ (l : List S44) (n : Nat) : parN l (n + 1) = if l.any (isAb (rd_T44 l n).f0) = true then parN l n ++ [(n : Int)] else parN l n := by
 unfold parN; rw [List.range_succ, List.foldl_append]; rfl
theorem parN_len (l : List S44) (n : Nat) : (parN l n).length ≤ n := by
 induction n with
 | zero => exact Nat.le_refl _
 | succ n ih =>
  rw [parN_succ]
  split
  ·rw [List.length_append]; simp; omega
  ·omega
structure House (w : World) (base : Nat) (A0 : Option Addr) (c0 : Nat) (l0 : List S44) (A1 : Option Addr) (n1 c1 : Nat) (gh : Nat) (A2 : Option Addr) (c2 : Nat) (ps : List Int) (A3 : Option Addr) (c3 : Nat) (ys : List Bool) : Prop where
 cell : w.heap[gh]? = some (.cells #[.slice A0 l0.length c0, .slice A1 n1 c1, .slice A2 ps.length c2, .slice A3 l0.length c3] 77 (0, 0))
 par : Kd.R (Kd.int .i64) 3 w base (fun _ => True) (.slice A2 ps.length c2) ps
 lk : Kd.R Kd.bool 4 w base (fun _ => True) (.slice A3 l0.length c3) ys
 len : ys.length = l0.length
 lo : base ≤ gh
theorem newHouse_bad (A0 : Option Addr) (c0 : Nat) (l0 : List (S44)) (A1 : Option Addr) (c1 : Nat) (l1 : List (S46)) (a2 : Int) (E : Int) (w : World) (hr0 : Kd.C k44 w A0 l0.length l0) (hc0 : l0.length ≤ c0) (hr1 : Kd.C k46 w A1 l1.length l1) (hc1 : l1.length ≤ c1)
  (hs : l0.length ≤ 5864062014805 ∧ l1.length ≤ 140737488355328) (h : houseE l0 l1 a2 = E) (hE : E ≠ 0) :
  Calls Try.prog 26 #[.slice A0 l0.length c0, .slice A1 l1.length c1, .int .i64 a2] w fun e w' => e = .returned (.tuple #[.pointer none, .int .i64 E]) ∧ Below w.heap.size w w' := by
 have HQ : flow_Bounds.f l0 l1 = some ((boundsR l0 l1).1, (boundsR l0 l1).2) := by unfold flow_Bounds.f; rw [if_pos hs]
 unfold houseE at h
 generalize (boundsR l0 l1).1 = rb at HQ
 generalize (boundsR l0 l1).2 = eb at HQ h
 have HQ := Aside0.mk HQ
 have HR0 := Aside0.mk hr0
 have HC0 := Aside0.mk hc0
 have HR1 := Aside0.mk hr1
 have HC1 := Aside0.mk hc1
 have HB := Aside0.mk (Below.refl w.heap.size w)
 clear hr0 hc0 hr1 hc1 hs
 by_cases e1 : eb = 1
 ·rw [if_pos (.inl e1)] at h
  subst h
  have d1 : (eb == 1) = true := beq_iff_eq.2 e1
  clear e1 hE
  go_enter Try.func26, Try.ntmps26
  go_wp2_with (first | (go_at_call 22; (with_reducible refine (flow_Bounds.calls A0 c0 l0 A1 c1 l1 rb eb _ (Kd.C_below HR0.out HB.out) HC0.out (Kd.C_below HR1.out HB.out) HC1.out HQ.out).mono ?_); rintro e w1 ⟨vb, rfl, ho_, hb_⟩; have n0_ := Aside0.mk (below_step HB.out hb_); clear HB hb_ ho_; have HB := n0_; clear n0_))
  go_ret2
  exact ⟨rfl, HB.out⟩
 have d1 : (eb == 1) = false := beq_eq_false_iff_ne.2 e1
 by_cases e2 : a2 < 0
 ·rw [if_pos (.inr (.inl e2))] at h
  subst h
  have d2 : decide (a2 < 0) = true := decide_eq_true e2
  clear e1 e2 hE
  go_enter Try.func26, Try.ntmps26
  go_wp2_with (first | (go_at_call 22; (with_reducible refine (flow_Bounds.calls A0 c0 l0 A1 c1 l1 rb eb _ (Kd.C_below HR0.out HB.out) HC0.out (Kd.C_below HR1.out HB.out) HC1.out HQ.out).mono ?_); rintro e w1 ⟨vb, rfl, ho_, hb_⟩; have n0_ := Aside0.mk (below_step HB.out hb_); clear HB hb_ ho_; have HB := n0_; clear n0_))
  go_ret2
  exact ⟨rfl, HB.out⟩
 have d2 : decide (a2 < 0) = false := decide_eq_false e2
 by_cases e3 : 3 < a2
 ·rw [if_pos (.inr (.inr e3))] at h
  subst h
  have d3 : decide (3 < a2) = true := decide_eq_true e3
  clear e1 e2 e3 hE
  go_enter Try.func26, Try.ntmps26
  go_wp2_with (first | (go_at_call 22; (with_reducible refine (flow_Bounds.calls A0 c0 l0 A1 c1 l1 rb eb _ (Kd.C_below HR0.out HB.out) HC0.out (Kd.C_below HR1.out HB.out) HC1.out HQ.out).mono ?_); rintro e w1 ⟨vb, rfl, ho_, hb_⟩; have n0_ := Aside0.mk (below_step HB.out hb_); clear HB hb_ ho_; have HB := n0_; clear n0_))
  go_ret2
  exact ⟨rfl, HB.out⟩
 have d3 : decide (3 < a2) = false := decide_eq_false e3
 rw [if_neg (by omega)] at h
 by_cases e4 : 40 < l0.length
 ·rw [if_pos e4] at h
  subst h
  have d4 : decide ((40 : Int) < (l0.length : Int)) = true := decide_eq_true (by omega)
  have d4' : decide (40 < l0.length) = true := decide_eq_true e4
  clear e1 e2 e3 e4 hE
  go_enter Try.func26, Try.ntmps26
  go_wp2_with (first | (go_at_call 22; (with_reducible refine (flow_Bounds.calls A0 c0 l0 A1 c1 l1 rb eb _ (Kd.C_below HR0.out HB.out) HC0.out (Kd.C_below HR1.out HB.out) HC1.out HQ.out).mono ?_); rintro e w1 ⟨vb, rfl, ho_, hb_⟩; have n0_ := Aside0.mk (below_step HB.out hb_); clear HB hb_ ho_; have HB := n0_; clear n0_))
  go_ret2
  exact ⟨rfl, HB.out⟩
 ·rw [if_neg e4] at h
  exact absurd h.symm hE
theorem newHouse_ok (A0 : Option Addr) (c0 : Nat) (l0 : List (S44)) (A1 : Option Addr) (c1 : Nat) (l1 : List (S46)) (a2 : Int) (w : World) (hr0 : Kd.C k44 w A0 l0.length l0) (hc0 : l0.length ≤ c0) (hr1 : Kd.C k46 w A1 l1.length l1) (hc1 : l1.length ≤ c1)
  (hs : l0.length ≤ 5864062014805 ∧ l1.length ≤ 140737488355328) (h : houseE l0 l1 a2 = 0) :
  Calls Try.prog 26 #[.slice A0 l0.length c0, .slice A1 l1.length c1, .int .i64 a2] w fun e w' => ∃ gh A2 c2 A3 c3 ys, e = .returned (.tuple #[.pointer (some ⟨gh, 0, none⟩), .int .i64 0]) ∧ House w' w.heap.size A0 c0 l0 A1 l1.length c1 gh A2 c2 (parN l0 l0.length) A3 c3 ys ∧ Below w.heap.size w w' := by
 have hu44 := Try.underlying44
 have hu77 := Try.underlying77
 have HQ : flow_Bounds.f l0 l1 = some ((boundsR l0 l1).1, (boundsR l0 l1).2) := by unfold flow_Bounds.f; rw [if_pos hs]
 unfold houseE at h
 generalize (boundsR l0 l1).1 = rb at HQ
 generalize (boundsR l0 l1).2 = eb at HQ h
 have HQ := Aside0.mk HQ
 have HR0 := Aside0.mk hr0
 have HC0 := Aside0.mk hc0
 have HR1 := Aside0.mk hr1
 have HC1 := Aside0.mk hc1
 have HB := Aside0.mk (Below.refl w.heap.size w)
 clear hr0 hc0 hr1 hc1 hs
 by_cases e1 : eb = 1 ∨ a2 < 0 ∨ 3 < a2
 ·rw [if_pos e1] at h; exact absurd h (by decide)
 rw [if_neg e1] at h
 by_cases e4 : 40 < l0.length
 ·rw [if_pos e4] at h; exact absurd h (by decide)
 clear h
 have d1 : (eb == 1) = false := beq_eq_false_iff_ne.2 (fun e => e1 (.inl e))
 have d2 : decide (a2 < 0) = false := decide_eq_false (fun e => e1 (.inr (.inl e)))
 have d3 : decide (3 < a2) = false := decide_eq_false (fun e => e1 (.inr (.inr e)))
 have d4 : decide ((40 : Int) < (l0.length : Int)) = false := decide_eq_false (by omega)
 have d4' : decide (40 < l0.length) = false := decide_eq_false e4
 have H40 := Aside0.mk (show l0.length ≤ 40 by omega)
 clear e1 e4
 go_enter Try.func26, Try.ntmps26
 go_wp2_with (first | (go_at_call 22; (with_reducible refine (flow_Bounds.calls A0 c0 l0 A1 c1 l1 rb eb _ (Kd.C_below HR0.out HB.out) HC0.out (Kd.C_below HR1.out HB.out) HC1.out HQ.out).mono ?_); rintro e w1 ⟨vb, rfl, ho_, hb_⟩; have n0_ := Aside0.mk (below_step HB.out hb_); clear HB hb_ ho_; have HB := n0_; clear n0_) | ((with_reducible refine gate_dst (N := 36) rfl ?_); refine Kd.R_make Kd.bool _ 4 rfl (N := 36) rfl 48 _ _ rfl (l0.length : Int) rfl rfl Try.underlying48 (.bool false) 1 (by kernel_rfl) rfl (by decide) (by omega) false (ok := fun _ => True) (okp := fun _ => True) rfl (fun _ hk => hk) trivial (by omega) (by have := H40.out; omega) (Below.refl _ _) (Nat.le_refl _) ?_; intro v1 w8 ho hb_ hg_ hnew_; rw [Int.toNat_natCast] at ho; obtain ⟨A3, c3, ev3⟩ := Kd.R_slice ho; rw [List.length_replicate] at ev3; subst ev3; have n0_ := Aside0.mk (below_step HB.out hb_); have HL := Aside0.mk (Kd.R_lower ho (below_size HB.out)); clear HB hb_ ho hg_ hnew_; have HB := n0_; clear n0_) | ((with_reducible refine gate_dst (N := 38) rfl ?_); refine box_event ?hg (N := 38) ?hd (cs := #[.slice A0 l0.length c0, .slice A1 l1.length c1, .slice none 0 0, .slice A3 l0.length c3]) (t := 77) ?hr ?_; (case hd => rfl); (case hg => rfl); (case hr => first | (go_simp; done) | (go_simp; rfl)); intro gh hg_H wh hbox_ hb_; have n0_ := Aside0.mk (below_step HB.out hb_); have BH := Aside0.mk hbox_; have GH := Aside0.mk (show w.heap.size ≤ gh by rw [hg_H]; exact below_size HB.out); have EH := Aside0.mk hg_H; have hcH0 : wh.cell? ⟨gh, 0, none⟩ = some (.slice A0 l0.length c0) := (blk_cell hbox_ 0).trans rfl; have hfH0 := blk_frozen hbox_ 0; have hcH1 : wh.cell? ⟨gh, 1, none⟩ = some (.slice A1 l1.length c1) := (blk_cell hbox_ 1).trans rfl; have hfH1 := blk_frozen hbox_ 1; have hcH2 : wh.cell? ⟨gh, 2, none⟩ = some (.slice none 0 0) := (blk_cell hbox_ 2).trans rfl; have hfH2 := blk_frozen hbox_ 2; have hcH3 : wh.cell? ⟨gh, 3, none⟩ = some (.slice A3 l0.length c3) := (blk_cell hbox_ 3).trans rfl; have hfH3 := blk_frozen hbox_ 3; have n1_ := Aside0.mk (Kd.R_below HL.out hb_); clear HL; have HL := n1_; clear n1_; clear HB hg_H hbox_ hb_; have HB := n0_; clear n0_))
 go_loopg [41] l0.length (fun kq v41 wr => ∃ (i : Nat) (A2 : Option Addr) (c2 : Nat), v41 = .int .i64 i ∧ Aside0 (kq + i = l0.length) ∧ Aside0 (House wr w.heap.size A0 c0 l0 A1 l1.length c1 gh A2 c2 (parN l0 i) A3 c3 (List.replicate l0.length false)) ∧ Aside0 (Below w.heap.size w wr))
 case atStart => exact ⟨0, none, 0, rfl, ⟨by omega⟩, ⟨⟨BH.out, Kd.R_nil _ _ _ _ _, HL.out, by simp, GH.out⟩⟩, HB⟩
 case round =>
  clear BH GH EH HL HB hcH0 hfH0 hcH1 hfH1 hcH2 hfH2 hcH3 hfH3
  obtain ⟨n, A2, c2, rfl, HM, HH, HB⟩ := hrel
  by_cases hlt : n < l0.length
  ·obtain ⟨i, hi⟩ : ∃ i : Int, i = (n : Int) := ⟨_, rfl⟩
   rw [← hi]
   have HI2 := Aside0.mk (show 0 ≤ i ∧ i < l0.length ∧ i = (n : Int) from ⟨by omega, by omega, hi⟩)
   have d7 : decide (i < (l0.length : Int)) = true := decide_eq_true HI2.out.2.1
   have ci2 : (0 ≤ i) = True := eq_true HI2.out.1
   have ci3 : (i < l0.length) = True := eq_true HI2.out.2.1
   obtain ⟨adb, eb_, hx0, hx1, hx2⟩ := at_T44 (Kd.C_below HR0.out HB.out) i HI2.out.1 HI2.out.2.1
   subst eb_
   have hz1 : i + 1 ≤ 9223372036854775807 := by have := HI2.out; have := H40.out; omega
   have hz2 : -9223372036854775808 ≤ i + 1 := by have := HI2.out; omega
   obtain ⟨x0, hx0'⟩ : ∃ x, x = (rd_T44 l0 i).f0 := ⟨_, rfl⟩
   obtain ⟨x1, hx1'⟩ : ∃ x, x = (rd_T44 l0 i).f1 := ⟨_, rfl⟩
   obtain ⟨x2, hx2'⟩ : ∃ x, x = (rd_T44 l0 i).f2 := ⟨_, rfl⟩
   rw [← hx0'] at hx0
   rw [← hx1'] at hx1
   rw [← hx2'] at hx2
   have HX0 := Aside0.mk hx0'
   have HN := Aside0.mk (show l0.length ≤ 140737488355328 by have := H40.out; omega)
   clear hi hlt hx0' hx1' hx2'
   have HB0 := Aside0.mk (Below.refl wr.heap.size wr)
   go_upto_region 10 with (first | ((with_reducible refine gate_dst (N := 12) rfl ?_); refine box_event ?hg (N := 12) ?hd (cs := #[.int .i64 0, .int .i64 0, .int .i64 0]) (t := 44) ?hr ?_; (case hd => rfl); (case hg => rfl); (case hr => first | (go_simp; done) | (go_simp; rfl)); intro gp hg_X w9 hbox_ hb_; have n0_ := Aside0.mk (below_step HB0.out hb_); have BX := Aside0.mk hbox_; have GX := Aside0.mk (show wr.heap.size ≤ gp by rw [hg_X]; exact below_size HB0.out); have EX := Aside0.mk hg_X; have hcX0 : w9.cell? ⟨gp, 0, none⟩ = some (.int .i64 0) := (blk_cell hbox_ 0).trans rfl; have hfX0 := blk_frozen hbox_ 0; have hcX1 : w9.cell? ⟨gp, 1, none⟩ = some (.int .i64 0) := (blk_cell hbox_ 1).trans rfl; have hfX1 := blk_frozen hbox_ 1; have hcX2 : w9.cell? ⟨gp, 2, none⟩ = some (.int .i64 0) := (blk_cell hbox_ 2).trans rfl; have hfX2 := blk_frozen hbox_ 2; replace hx0 := (hb_.cell (World.block_lt_of_cell? _ _ hx0)).trans hx0; replace hx1 := (hb_.cell (World.block_lt_of_cell? _ _ hx1)).trans hx1; replace hx2 := (hb_.cell (World.block_lt_of_cell? _ _ hx2)).trans hx2; clear HB0 hg_X hbox_ hb_; have HB0 := n0_; clear n0_))
   obtain ⟨w10, hw10⟩ : ∃ w10, w10 = ((w9.setCell ⟨gp, 0, none⟩ (.int .i64 x0)).setCell ⟨gp, 1, none⟩ (.int .i64 x1)).setCell ⟨gp, 2, none⟩ (.int .i64 x2) := ⟨_, rfl⟩
   rw [← hw10]
   have BX10 := Aside0.mk (show w10.heap[gp]? = some (.cells #[.int .i64 x0, .int .i64 x1, .int .i64 x2] 44 (0, 0)) by rw [hw10]; exact blk_put3 BX.out _ _ _)
   have HB10 := Aside0.mk (show Below wr.heap.size wr w10 by rw [hw10]; exact below_put3 HB0.out GX.out _ _ _)
   clear hw10 BX HB0 GX EX hcX0 hcX1 hcX2 hfX0 hfX1 hfX2 hx0 hx1 hx2
   cases hany : l0.any (isAb x0) with
   | false =>
    have HA := Aside0.mk hany
    clear hany
    go_wp2_with (first | (go_at_call 42; (with_reducible refine (above_contains (some adb) c0 l0 _ (Kd.C_below (Kd.C_below HR0.out HB.out) HB10.out) HC0.out HN.out gp x0 x1 x2 BX10.out).mono ?_); rw [HA.out]; rintro e w11 ⟨rfl, hb_⟩; have n0_ := Aside0.mk (below_step HB10.out hb_); clear HB10 hb_ BX10; have HB10 := n0_; clear n0_; have BH11 := Aside0.mk (blk_below HH.out.cell HB10.out); have hch2 := (blk_cell BH11.out 2).trans rfl; have hfh2 := blk_frozen BH11.out 2))
    go_roundg (gk - 1)
    case measure => have := HM.out; have := HI2.out; omega
    case rel =>
     refine ⟨n + 1, A2, c2, ?_, ⟨by have := HM.out; have := HI2.out; omega⟩, ⟨?_⟩, ⟨below_step HB.out HB10.out⟩⟩
     ·have := HI2.out
      first | (rw [show ((n + 1 : Nat) : Int) = i + 1 from by omega]; done) | (simp; omega)
     ·have e : parN l0 (n + 1) = parN l0 n := by
       rw [parN_succ, ← HI2.out.2.2, ← HX0.out, HA.out, if_neg (by decide)]
      rw [e]
      exact ⟨blk_below HH.out.cell HB10.out, Kd.R_below HH.out.par HB10.out, Kd.R_below HH.out.lk HB10.out, HH.out.len, HH.out.lo⟩
   | true =>
    have HA := Aside0.mk hany
    have HPL := Aside0.mk (show (parN l0 n).length ≤ 40 by have := parN_len l0 n; have := HI2.out; have := H40.out; omega)
    clear hany
    go_wp2_with (first | (go_at_call 42; (with_reducible refine (above_contains (some adb) c0 l0 _ (Kd.C_below (Kd.C_below HR0.out HB.out) HB10.out) HC0.out HN.out gp x0 x1 x2 BX10.out).mono ?_); rw [HA.out]; rintro e w11 ⟨rfl, hb_⟩; have n0_ := Aside0.mk (below_step HB10.out hb_); clear HB10 hb_ BX10; have HB10 := n0_; clear n0_; have BH11 := Aside0.mk (blk_below HH.out.cell HB10.out); have hch2 := (blk_cell BH11.out 2).trans rfl; have hfh2 := blk_frozen BH11.out 2) | ((with_reducible refine gate_builtin (b := .append) (xs := #[.tmp 53, .tmp 55]) rfl ?_); at_builtin; refine Kd.R_append (Kd.int .i64) (w0 := w) w.heap.size rfl (.tmp 53) (.tmp 55) 26 3 (.int .i64 0) 8 rfl Try.underlying26 info3 rfl (by decide) (by omega) (.slice A2 (parN l0 n).length c2) (parN l0 n) i [.int .i64 i] (fun _ => True) (fun _ => False) rfl rfl rfl (fun _ hk => hk.elim) (fun _ _ => trivial) (Kd.R_below HH.out.par HB10.out) (below_step HB.out HB10.out) (below_size (below_step HB.out HB10.out)) (by have := HPL.out; omega) ?_; intro v56 w12 ho hb hg hat; have HP12 := Aside0.mk ho; have BH12 := Aside0.mk (blk_grown BH11.out hg (Kd.R_ne (Kd.R_below HH.out.par HB10.out) BH11.out (by decide))); have HL12 := Aside0.mk (Kd.R_over' (Kd.R_below HH.out.lk HB10.out) (Kd.R_typed (Kd.R_below HH.out.par HB10.out)) (by decide) hg); have HBW := Aside0.mk hb; have HLO := Aside0.mk HH.out.lo; obtain ⟨A4, c4, e4⟩ := Kd.R_slice HP12.out; subst e4; clear ho hb hg hat BH11 hch2 hfh2; have hch2 := (blk_cell BH12.out 2).trans rfl; have hfh2 := blk_frozen BH12.out 2))
    go_roundg (gk - 1)
    case measure => have := HM.out; have := HI2.out; omega
    case rel =>
     refine ⟨n + 1, A4, c4, ?_, ⟨by have := HM.out; have := HI2.out; omega⟩, ⟨?_⟩, ⟨below_set HBW.out HLO.out⟩⟩
     ·have := HI2.out
      first | (rw [show ((n + 1 : Nat) : Int) = i + 1 from by omega]; done) | (simp; omega)
     ·have e : parN l0 (n + 1) = parN l0 n ++ [i] := by
       rw [parN_succ, ← HI2.out.2.2, ← HX0.out, HA.out, if_pos rfl]
      rw [e]
      exact ⟨blk_put BH12.out 2 _ (by simp), Kd.R_set HP12.out BH12.out (by decide) _ _, Kd.R_set HL12.out BH12.out (by decide) _ _, by simp, HLO.out⟩
  ·have d7 : decide ((n : Int) < (l0.length : Int)) = false := decide_eq_false (by omega)
   have d7' : decide (n < l0.length) = false := decide_eq_false hlt
   have HNL := Aside0.mk (show n = l0.length by have := HM.out; omega)
   clear hlt
   go_wp2
   go_ret2
   refine ⟨gh, A2, c2, A3, c3, List.replicate l0.length false, rfl, ?_, HB.out⟩
   rw [HNL.out] at HH
   exact HH.out
end
section
theorem slices_Clone_pipes.nil_eq (A : Option Addr) (n c : Nat) (W : World) : (binOp .eql 22 (.slice A n c) (.slice none 0 0)).run Try.prog W = .ok (.bool A.isNone) W := by
 have h : ∀ d : Nat, (Op.equalIn (d + 1) 22 (.slice A n c) (.slice none 0 0)).run Try.prog W = .ok A.isNone W := fun d => by
  cases A <;> simp [Op.equalIn, run_underlying Try.underlying22]
 simp only [binOp]
 simp [Op.equal, Op.maxDepth, h 9999]
def slices_Clone_pipes.f (l0 : List S44) : Option (List S44) := if l0.length ≤ 4398046511104 then some l0 else none
theorem slices_Clone_pipes.calls (A0 : Option Addr) (c0 : Nat) (l0 : List S44) (r : List S44) (w : World) (hr0 : Kd.C k44 w A0 l0.length l0) (hc0 : l0.length ≤ c0) (h : slices_Clone_pipes.f l0 = some r) :
  Calls Try.prog 58 #[.slice A0 l0.length c0] w fun e w' => ∃ v0_ : Value, e = .returned v0_ ∧ Kd.R k44 44 w' w.heap.size (fun _ => True) v0_ r ∧ Below w.heap.size w w' := by
 have hu44 := Try.underlying44
 unfold slices_Clone_pipes.f at h
 by_cases hg : l0.length ≤ 4398046511104
 case neg => rw [if_neg hg] at h; cases h
 rw [if_pos hg] at h
 have e := Option.some.inj h
 subst e
 clear h
 have HG := Aside0.mk hg
 have HR0 := Aside0.mk hr0
 have HC0 := Aside0.mk hc0
 clear hg hr0 hc0
 have HB := Aside0.mk (Below.refl w.heap.size w)
 cases A0 with
 | none =>
  have e0 : l0 = [] := by
   have h2 := HR0.out.2.2
   cases l0 with
   | nil => rfl
   | cons a t => obtain ⟨ad, hh, _⟩ := h2 (by simp); cases hh
  subst e0
  have hnil : ∀ W, (binOp .eql 22 (.slice none 0 c0) (.slice none 0 0)).run Try.prog W = .ok (.bool true) W := fun W => slices_Clone_pipes.nil_eq none _ _ W
  go_enter Try.func58, Try.ntmps58
  go_wp2
  go_ret
  exact ⟨_, rfl, Kd.R_nil _ _ _ _ _, HB.out⟩
 | some ad =>
  have hnil : ∀ W, (binOp .eql 22 (.slice (some ad) l0.length c0) (.slice none 0 0)).run Try.prog W = .ok (.bool false) W := fun W => slices_Clone_pipes.nil_eq (some ad) _ _ W
  go_enter Try.func58, Try.ntmps58
  go_wp2_with (first | ((with_reducible refine gate_dst (N := 5) rfl ?_); (try (refine gate_guard (by rfl) ?_; dsimp only)); refine Kd.R_lit k44 _ 44 ?hg (N := 5) ?hd (xs := ([] : List S44)) (inner := []) (ok := fun _ => True) (okp := fun _ => True) ?hr ?hp (fun _ hk => hk) trivial (Below.refl _ _) (Nat.le_refl _) (by simp) ?_; (case hd => rfl); (case hg => rfl); (case hr => first | (go_simp; done) | (go_simp; rfl)); (case hp => exact (Reps.none _ _)); intro v5 w1 ho hb hg_ hnew_; clear hg_ hnew_; have HO5 := Aside0.mk (Kd.R_lower ho (below_size HB.out)); have n1_ := Aside0.mk (below_step HB.out hb); clear HB; have HB := n1_; clear n1_ hb ho) | ((with_reducible refine gate_builtin (b := .append) (xs := #[.tmp 5, .tmp 6]) rfl ?_); at_builtin; refine Kd.R_append_rows k44 (w0 := w) w.heap.size rfl (.tmp 5) (.tmp 6) 22 44 (.agg #[(.int .i64 0), (.int .i64 0), (.int .i64 0)]) 24 rfl Try.underlying22 info44 rfl (by decide) (by omega) v5 ([] : List S44) l0 _ _ _ (fun _ => True) (fun _ => False) rfl rfl HO5.out (Kd.C_below HR0.out HB.out) (fun _ _ h => h) (fun _ h => h.elim) (fun _ _ => trivial) HB.out (below_size HB.out) (by have := HG.out; simp only [List.length_nil]; omega) ?_; intro v7 w4 ho hb hg hat; have HO7 := Aside0.mk ho; have n0_ := Aside0.mk hb; clear HB; have HB := n0_; clear n0_ ho hb hg hat))
  go_ret
  exact ⟨_, rfl, HO7.out, HB.out⟩
end
section
open Go.Proofs.YtolmjhpapidmhaaH
section
variable {g cap n e base : Nat} {ok : Nat → Prop}
theorem R_sets : ∀ (d o : Nat) (W : World) (xs : List Bool), o + d = xs.length → Kd.bool.R e W base ok (.slice (some ⟨g, 0, none⟩) n cap) xs →
  Kd.bool.R e (W.setCells g o (List.replicate d (.bool false))) base ok (.slice (some ⟨g, 0, none⟩) n cap) (xs.take o ++ List.replicate d false) ∧ W.grownBy (W.setCells g o (List.replicate d (.bool false))) (some g)
 | 0, o, W, xs, hl, h => by
  have e1 : xs.take o ++ List.replicate 0 false = xs := by rw [List.take_of_length_le (by omega)]; simp
  rw [e1]
  exact ⟨h, World.grownBy.refl W _⟩
 | d + 1, o, W, xs, hl, h => by
  have h1 := Kd.R_putg (enc := Value.bool) h (o : Int) false
  rw [Int.toNat_natCast] at h1
  have h2 := R_sets d (o + 1) (W.setCell ⟨g, o, none⟩ (.bool false)) (xs.set o false) (by rw [List.length_set]; omega) h1.1
  have e1 : (xs.set o false).take (o + 1) ++ List.replicate d false = xs.take o ++ List.replicate (d + 1) false := by
   rw [List.replicate_succ, List.take_succ_eq_append_getElem (by rw [List.length_set]; omega), List.getElem_set_self, List.take_set_of_le (Nat.le_refl _), List.append_assoc]
   rfl
  rw [e1] at h2
  refine ⟨h2.1, ⟨?_, ?_, ?_, ?_, ?_⟩⟩
  ·exact h2.2.1.trans h1.2.1
  ·exact h2.2.2.trans h1.2.2
  ·exact h2.2.3.trans h1.2.3
  ·exact Nat.le_trans h1.2.4 h2.2.4
  ·exact fun i hi hr => (h2.2.5 i (Nat.lt_of_lt_of_le hi h1.2.4) hr).trans (h1.2.5 i hi hr)
theorem R_clear {W : World} {A : Option Addr} {c : Nat} {xs : List Bool} (h : Kd.R Kd.bool 4 W base ok (.slice A n c) xs) (hn : 0 < n) :
  ∃ g, A = some ⟨g, 0, none⟩ ∧ base ≤ g ∧ (∀ ty, (Builtin.clear_ #[48] ty #[.slice A n c]).run Try.prog W = .ok (.tuple #[]) (W.setCells g 0 (List.replicate n (.bool false)))) ∧
   Kd.R Kd.bool 4 (W.setCells g 0 (List.replicate n (.bool false))) base ok (.slice A n c) (List.replicate n false) ∧ W.grownBy (W.setCells g 0 (List.replicate n (.bool false))) (some g) := by
 obtain ⟨hnl, hnc, hC⟩ := Kd.R_reads' h
 obtain ⟨g, cap, e, hb, hlt, cells, hcell⟩ := Kd.R_form h (by omega)
 injection e with e1 e2 e3
 subst e1
 refine ⟨g, rfl, hb, fun ty => ?_, ?_⟩
 ·refine Lib.run_clear_slice W _ 4 ty _ Try.underlying48 (fun w => ?_) rfl rfl g 0 n c hn (fun j hj => ?_) (fun j hj => ?_)
  ·go_simp
  ·obtain ⟨ad, ea, hx⟩ := Kd.at_bool hC (j : Int) (by omega) (by omega)
   injection ea with ea
   subst ea
   rw [Int.toNat_natCast] at hx
   have e4 : (⟨g, 0 + j, none⟩ : Addr) = (⟨g, 0, none⟩ : Addr).add j := by simp [Addr.add]
   rw [e4, hx]
   rfl
  ·exact blk_frozen hcell (0 + j)
 ·have h2 := R_sets (e := 4) (g := g) (n := n) (cap := c) n 0 W xs (by omega) h
  rw [List.take_zero, List.nil_append] at h2
  exact h2
end
theorem clear_any {W : World} {base : Nat} {ok : Nat → Prop} {A : Option Addr} {n c : Nat} {xs : List Bool} (h : Kd.R Kd.bool 4 W base ok (.slice A n c) xs) :
  ∃ Wc, (∀ ty, (Builtin.clear_ #[48] ty #[.slice A n c]).run Try.prog W = .ok (.tuple #[]) Wc) ∧ Kd.R Kd.bool 4 Wc base ok (.slice A n c) (List.replicate n false) ∧ W.grownBy Wc (Value.slice A n c).ownBlock := by
 by_cases hn : 0 < n
 ·obtain ⟨g, rfl, _, h1, h2, h3⟩ := R_clear h hn
  exact ⟨_, h1, h2, h3⟩
 ·have e0 : n = 0 := by omega
  subst e0
  obtain ⟨hl, _, _⟩ := Kd.R_reads' h
  have ex : xs = [] := List.eq_nil_of_length_eq_zero hl.symm
  subst ex
  refine ⟨W, fun ty => ?_, h, World.grownBy.refl W _⟩
  cases A <;> simp [Builtin.clear_, run_underlying Try.underlying48]
def leakS (n : Nat) (ss : List Int) (m : Nat) : List Bool := (List.range m).foldl (fun ys (j : Nat) => ys.set (rd ss (j : Int)).toNat true) (List.replicate n false)
theorem leakS_succ (n : Nat) (ss : List Int) (m : Nat) : leakS n ss (m + 1) = (leakS n ss m).set (rd ss (m : Int)).toNat true := by unfold leakS; rw [List.range_succ, List.foldl_append]; rfl
theorem leakS_len (n : Nat) (ss : List Int) (m : Nat) : (leakS n ss m).length = n := by
 induction m with
 | zero => simp [leakS]
 | succ m ih => rw [leakS_succ, List.length_set, ih]
def leakP (l : List S44) (ys : List Bool) (m : Nat) : List S44 := (List.range m).foldl (fun q (j : Nat) => if rdOf false ys (j : Int) = true then q.set j ⟨(rd_T44 q (j : Int)).f0, (rd_T44 q (j : Int)).f1, 1000000000⟩ else q) l
theorem leakP_succ (l : List S44) (ys : List Bool) (m : Nat) : leakP l ys (m + 1) = if rdOf false ys (m : Int) = true then (leakP l ys m).set m ⟨(rd_T44 (leakP l ys m) (m : Int)).f0, (rd_T44 (leakP l ys m) (m : Int)).f1, 1000000000⟩ else leakP l ys m := by unfold leakP; rw [List.range_succ, List.foldl_append]; rfl
theorem leakP_len (l : List S44) (ys : List Bool) (m : Nat) : (leakP l ys m).length = l.length := by
 induction m with
 | zero => rfl
 | succ m ih =>
  rw [leakP_succ]
  split
  ·rw [List.length_set, ih]
  ·exact ih
def explB (l : List S44) (known : List S46) (ss : List Int) : Bool := (boundsR (leakP l (leakS l.length ss ss.length) l.length) known).2 == 0
theorem explains_calls (w0 w : World) (A0 : Option Addr) (c0 : Nat) (l0 : List (S44)) (A1 : Option Addr) (c1 : Nat) (l1 : List (S46)) (gh : Nat) (A2 : Option Addr) (c2 : Nat) (ps : List Int) (A3 : Option Addr) (c3 : Nat) (ys : List Bool) (As : Option Addr) (cs : Nat) (ss : List Int)
  (hb0 : Below w0.heap.size w0 w) (hr0 : Kd.C k44 w0 A0 l0.length l0) (hc0 : l0.length ≤ c0) (hr1 : Kd.C k46 w0 A1 l1.length l1) (hc1 : l1.length ≤ c1) (h40 : l0.length ≤ 40) (hl1 : l1.length ≤ 140737488355328)
  (hh : House w w0.heap.size A0 c0 l0 A1 l1.length c1 gh A2 c2 ps A3 c3 ys) (hs : Kd.R (Kd.int .i64) 3 w w0.heap.size (fun _ => True) (.slice As ss.length cs) ss) (hsl : ss.length ≤ 1000) (hsr : ∀ j : Int, 0 ≤ j → j < ss.length → 0 ≤ rd ss j ∧ rd ss j < l0.length) :
  Calls Try.prog 46 #[.pointer (some ⟨gh, 0, none⟩), .slice As ss.length cs] w fun e w' => e = .returned (.bool (explB l0 l1 ss)) ∧ (∃ ys', House w' w0.heap.size A0 c0 l0 A1 l1.length c1 gh A2 c2 ps A3 c3 ys') ∧ Below w0.heap.size w0 w' ∧ w.grownBy w' (Value.slice A3 l0.length c3).ownBlock := by
 have hu44 := Try.underlying44
 have hu77 := Try.underlying77
 have HR0 := Aside0.mk hr0
 have HC0 := Aside0.mk hc0
 have HR1 := Aside0.mk hr1
 have HC1 := Aside0.mk hc1
 have H40 := Aside0.mk h40
 have HL1 := Aside0.mk hl1
 have HSL := Aside0.mk hsl
 have HSR := Aside0.mk hsr
 have hch3 : w.cell? ⟨gh, 3, none⟩ = some (.slice A3 l0.length c3) := (blk_cell hh.cell 3).trans rfl
 obtain ⟨wc, hclr, hlk, hgr⟩ := clear_any hh.lk
 have hne : some gh ≠ (Value.slice A3 l0.length c3).ownBlock := Kd.R_ne hh.lk hh.cell (by decide)
 have HH := Aside0.mk (show House wc w0.heap.size A0 c0 l0 A1 l1.length c1 gh A2 c2 ps A3 c3 (leakS l0.length ss 0) from ⟨blk_grown hh.cell hgr hne, Kd.R_over' hh.par (Kd.R_typed hh.lk) (by decide) hgr, hlk, by simp [leakS], hh.lo⟩)
 have HS := Aside0.mk (Kd.R_over' hs (Kd.R_typed hh.lk) (by decide) hgr)
 have HB := Aside0.mk (Below.grown hb0 hgr (below_size hb0) (fun k hk => Kd.R_base hh.lk k hk))
 have HG := Aside0.mk hgr
 clear hr0 hc0 hr1 hc1 h40 hl1 hsl hsr hlk hgr hne hs hb0
 go_enter Try.func46, Try.ntmps46
 go_wp2
 go_loopg [17] ss.length (fun kq v17 wr => ∃ (i : Nat), v17 = .int .i64 i ∧ Aside0 (kq + i = ss.length) ∧ Aside0 (House wr w0.heap.size A0 c0 l0 A1 l1.length c1 gh A2 c2 ps A3 c3 (leakS l0.length ss i)) ∧ Aside0 (Kd.R (Kd.int .i64) 3 wr w0.heap.size (fun _ => True) (.slice As ss.length cs) ss) ∧ Aside0 (Below w0.heap.size w0 wr) ∧ Aside0 (w.grownBy wr (Value.slice A3 l0.length c3).ownBlock))
 case atStart => exact ⟨0, rfl, ⟨by omega⟩, HH, HS, HB, HG⟩
 case round =>
  clear HH HS HB HG hclr hh hch3
  obtain ⟨n, rfl, HM, HH, HS, HB, HG⟩ := hrel
  by_cases hlt : n < ss.length
  ·obtain ⟨i, hi⟩ : ∃ i : Int, i = (n : Int) := ⟨_, rfl⟩
   rw [← hi]
   have HI2 := Aside0.mk (show 0 ≤ i ∧ i < ss.length ∧ i = (n : Int) from ⟨by omega, by omega, hi⟩)
   have d7 : decide (i < (ss.length : Int)) = true := decide_eq_true HI2.out.2.1
   have ci2 : (0 ≤ i) = True := eq_true HI2.out.1
   have ci3 : (i < ss.length) = True := eq_true HI2.out.2.1
   have hr := HSR.out i HI2.out.1 HI2.out.2.1
   obtain ⟨ads, eas, hxs⟩ := Kd.at_int (Kd.R_reads' HS.out).2.2 i HI2.out.1 HI2.out.2.1
   subst eas
   obtain ⟨s, hs'⟩ : ∃ s, s = rd ss i := ⟨_, rfl⟩
   rw [← hs'] at hxs hr
   have HSS := Aside0.mk hs'
   have HRG := Aside0.mk hr
   have cs2 : (0 ≤ s) = True := eq_true hr.1
   have cs3 : (s < l0.length) = True := eq_true hr.2
   obtain ⟨gl, cl, el, gob, gol, cells, hcl⟩ := Kd.R_form HH.out.lk (by rw [leakS_len]; omega)
   injection el with el1 el2 el3
   subst el1
   have hch3 : wr.cell? ⟨gh, 3, none⟩ = some (.slice (some ⟨gl, 0, none⟩) l0.length c3) := (blk_cell HH.out.cell 3).trans rfl
   obtain ⟨adl, eal, hxl⟩ := Kd.at_bool (Kd.R_reads' HH.out.lk).2.2 s hr.1 (by rw [leakS_len]; exact hr.2)
   injection eal with eal
   subst eal
   rw [add_plain] at hxl
   have hfl : wr.frozen? ⟨gl, s.toNat, none⟩ = false := blk_frozen hcl _
   have hz1 : i + 1 ≤ 9223372036854775807 := by have := HI2.out; have := HSL.out; omega
   have hz2 : -9223372036854775808 ≤ i + 1 := by have := HI2.out; omega
   have HGL := Aside0.mk hcl
   clear hi hlt hr hs' el2 el3 gob gol hcl
   go_wp2
   have hP := Kd.R_putg (enc := Value.bool) HH.out.lk s true
   have hne : some gh ≠ some gl := Kd.R_ne HH.out.lk HH.out.cell (by decide)
   go_roundg (gk - 1)
   case measure => have := HM.out; have := HI2.out; omega
   case rel =>
    refine ⟨n + 1, ?_, ⟨by have := HM.out; have := HI2.out; omega⟩, ⟨?_⟩, ⟨Kd.R_over' (v := .slice (some ⟨gl, 0, none⟩) l0.length c3) HS.out (Kd.R_typed HH.out.lk) (by decide) hP.2⟩, ⟨Below.grown HB.out hP.2 (below_size HB.out) (fun k hk => Kd.R_base HH.out.lk k hk)⟩, ⟨grown_trans HG.out hP.2⟩⟩
    ·have := HI2.out
     first | (rw [show ((n + 1 : Nat) : Int) = i + 1 from by omega]; done) | (simp; omega)
    ·rw [leakS_succ, ← HI2.out.2.2, ← HSS.out]
     exact ⟨blk_grown HH.out.cell hP.2 hne, Kd.R_over' (v := .slice (some ⟨gl, 0, none⟩) l0.length c3) HH.out.par (Kd.R_typed HH.out.lk) (by decide) hP.2, hP.1, by rw [List.length_set, leakS_len], HH.out.lo⟩
  ·have d7 : decide ((n : Int) < (ss.length : Int)) = false := decide_eq_false (by omega)
   have d7' : decide (n < ss.length) = false := decide_eq_false hlt
   have HNL := Aside0.mk (show n = ss.length by have := HM.out; omega)
   rw [HNL.out] at HH
   clear hlt HM
   have hch0 : wr.cell? ⟨gh, 0, none⟩ = some (.slice A0 l0.length c0) := (blk_cell HH.out.cell 0).trans rfl
   go_wp2_with (first | (go_at_call 58; (with_reducible refine (slices_Clone_pipes.calls A0 c0 l0 l0 _ (Kd.C_below HR0.out HB.out) HC0.out (by unfold slices_Clone_pipes.f; rw [if_pos (by have := H40.out; omega)])).mono ?_); rintro e w2 ⟨vq, rfl, ho_, hb_⟩; obtain ⟨Aq, cq, eq_⟩ := Kd.R_slice ho_; subst eq_; have HQ := Aside0.mk (Kd.R_lower ho_ (below_size HB.out)); have HQN := Aside0.mk (fun k hk => Nat.le_trans HG.out.4 (Kd.R_base ho_ k hk)); have HH2 := Aside0.mk (show House w2 w0.heap.size A0 c0 l0 A1 l1.length c1 gh A2 c2 ps A3 c3 (leakS l0.length ss ss.length) from ⟨blk_below HH.out.cell hb_, Kd.R_below HH.out.par hb_, Kd.R_below HH.out.lk hb_, HH.out.len, HH.out.lo⟩); have HG2 := Aside0.mk (grown_trans HG.out (grown_of_below hb_ _)); have HB2 := Aside0.mk (below_step HB.out hb_); clear HB HG HH HS ho_ hb_ hch0; have HB := HB2; have HG := HG2; have HH := HH2; clear HB2 HG2 HH2))
   obtain ⟨ly, hly⟩ : ∃ ly, ly = leakS l0.length ss ss.length := ⟨_, rfl⟩
   rw [← hly] at HH
   have HLY := Aside0.mk hly
   clear hly
   go_loopg [35] l0.length (fun kq v35 wr => ∃ (i : Nat), v35 = .int .i64 i ∧ Aside0 (kq + i = l0.length) ∧ Aside0 (House wr w0.heap.size A0 c0 l0 A1 l1.length c1 gh A2 c2 ps A3 c3 ly) ∧ Aside0 (Kd.R k44 44 wr w0.heap.size (fun _ => True) (.slice Aq l0.length cq) (leakP l0 ly i)) ∧ Aside0 (Below w0.heap.size w0 wr) ∧ Aside0 (w.grownBy wr (Value.slice A3 l0.length c3).ownBlock) ∧ Aside0 (∀ k, (Value.slice Aq l0.length cq).ownBlock = some k → w.heap.size ≤ k))
   case atStart => exact ⟨0, rfl, ⟨by omega⟩, HH, HQ, HB, HG, HQN⟩
   case round =>
    clear HH HQ HB HG HQN
    obtain ⟨n, rfl, HM, HH, HQ, HB, HG, HQN⟩ := hrel
    by_cases hlt : n < l0.length
    ·obtain ⟨i, hi⟩ : ∃ i : Int, i = (n : Int) := ⟨_, rfl⟩
     rw [← hi]
     have HI2 := Aside0.mk (show 0 ≤ i ∧ i < l0.length ∧ i = (n : Int) from ⟨by omega, by omega, hi⟩)
     have d7 : decide (i < (l0.length : Int)) = true := decide_eq_true HI2.out.2.1
     have ci2 : (0 ≤ i) = True := eq_true HI2.out.1
     have ci3 : (i < l0.length) = True := eq_true HI2.out.2.1
     have hch3 : wr.cell? ⟨gh, 3, none⟩ = some (.slice A3 l0.length c3) := (blk_cell HH.out.cell 3).trans rfl
     obtain ⟨adl, eal, hxl⟩ := Kd.at_bool (Kd.R_reads' HH.out.lk).2.2 i HI2.out.1 (by rw [HH.out.len]; exact HI2.out.2.1)
     subst eal
     have hz1 : i + 1 ≤ 9223372036854775807 := by have := HI2.out; have := H40.out; omega
     have hz2 : -9223372036854775808 ≤ i + 1 := by have := HI2.out; omega
     cases hbl : rdOf false ly i with
     | false =>
      rw [hbl] at hxl
      have HBL := Aside0.mk hbl
      clear hbl hi hlt
      go_wp2
      go_roundg (gk - 1)
      case measure => have := HM.out; have := HI2.out; omega
      case rel =>
       refine ⟨n + 1, ?_, ⟨by have := HM.out; have := HI2.out; omega⟩, HH, ⟨?_⟩, HB, HG, HQN⟩
       ·have := HI2.out
        first | (rw [show ((n + 1 : Nat) : Int) = i + 1 from by omega]; done) | (simp; omega)
       ·rw [leakP_succ, ← HI2.out.2.2, HBL.out, if_neg (by decide)]
        exact HQ.out
     | true =>
      rw [hbl] at hxl
      have HBL := Aside0.mk hbl
      have hql : i < ((leakP l0 ly n).length : Int) := by rw [leakP_len]; exact HI2.out.2.1
      obtain ⟨gq, cq', eq1, gbq, glq, clq, HGQ⟩ := Kd.R_form HQ.out (by rw [leakP_len]; omega)
      injection eq1 with eq1 eq2 eq3
      subst eq1
      obtain ⟨ce9, hcl9, hM9, hcc9, hfr9⟩ := Kd.R_elem HQ.out z44 i HI2.out.1 (by exact HI2.out.2.1)
      obtain rfl := k44_openM hM9
      have HP10 := Kd.R_seg HQ.out i HI2.out.1 (by exact HI2.out.2.1) (seg := [.int .i64 1000000000]) (j := 2) hcl9 hcc9 (show 3 ≤ 3 from by decide) (x' := (⟨(rd_T44 (leakP l0 ly n) i).f0, (rd_T44 (leakP l0 ly n) i).f1, 1000000000⟩ : S44)) (k44_mkM _ _ _ (⟨(rd_T44 (leakP l0 ly n) i).f0, (rd_T44 (leakP l0 ly n) i).f1, 1000000000⟩ : S44)) (fun _ hk => hk)
      have hx2 : wr.cell? ⟨gq, i.toNat * 3 + 2, none⟩ = some (.int .i64 (rd_T44 (leakP l0 ly n) i).f2) := hcc9 2 _ rfl
      have hf2 : wr.frozen? ⟨gq, i.toNat * 3 + 2, none⟩ = false := hfr9 2
      clear hbl hi hlt hql eq2 eq3 gbq glq hcl9 hcc9 hfr9 hM9
      have HPP := Aside0.mk HP10
      clear HP10
      go_wp2
      have hneq : some gh ≠ some gq := fun e => by
       injection e with e
       have h1 := HH.out.cell
       rw [e, HGQ] at h1
       injection h1 with h1
       injection h1 with _ h2
       exact absurd h2 (by decide)
      have hqb := HQN.out gq rfl
      go_roundg (gk - 1)
      case measure => have := HM.out; have := HI2.out; omega
      case rel =>
       refine ⟨n + 1, ?_, ⟨by have := HM.out; have := HI2.out; omega⟩, ⟨⟨blk_grown HH.out.cell HPP.out.2 hneq, Kd.R_over' (v := .slice (some ⟨gq, 0, none⟩) l0.length cq) HH.out.par (Kd.R_typed HQ.out) (by decide) HPP.out.2, Kd.R_over' (v := .slice (some ⟨gq, 0, none⟩) l0.length cq) HH.out.lk (Kd.R_typed HQ.out) (by decide) HPP.out.2, HH.out.len, HH.out.lo⟩⟩, ⟨?_⟩, ⟨Below.grown HB.out HPP.out.2 (below_size HB.out) (fun k hk => Kd.R_base HQ.out k hk)⟩, ⟨?_⟩, HQN⟩
       ·have := HI2.out
        first | (rw [show ((n + 1 : Nat) : Int) = i + 1 from by omega]; done) | (simp; omega)
       ·rw [leakP_succ, ← HI2.out.2.2, HBL.out, if_pos rfl]
        have e1 : i.toNat = n := by have := HI2.out; omega
        have := HPP.out.1
        rw [e1] at this ⊢
        exact this
       ·exact ⟨HPP.out.2.1.trans HG.out.1, HPP.out.2.2.trans HG.out.2, HPP.out.2.3.trans HG.out.3, Nat.le_trans HG.out.4 HPP.out.2.4, fun k hk hr => (HPP.out.2.5 k (Nat.lt_of_lt_of_le hk HG.out.4) (fun e => by injection e with e; omega)).trans (HG.out.5 k hk hr)⟩
    ·have d7 : decide ((n : Int) < (l0.length : Int)) = false := decide_eq_false (by omega)
     have d7' : decide (n < l0.length) = false := decide_eq_false hlt
     have HNL2 := Aside0.mk (show n = l0.length by have := HM.out; omega)
     clear hlt
     have hch1 : wr.cell? ⟨gh, 1, none⟩ = some (.slice A1 l1.length c1) := (blk_cell HH.out.cell 1).trans rfl
     rw [HNL2.out] at HQ
     have hqq : flow_Bounds.f (leakP l0 ly l0.length) l1 = some ((boundsR (leakP l0 ly l0.length) l1).1, (boundsR (leakP l0 ly l0.length) l1).2) := by unfold flow_Bounds.f; rw [if_pos ⟨by rw [leakP_len]; have := H40.out; omega, by have := HL1.out; omega⟩]
     have hex : explB l0 l1 ss = ((boundsR (leakP l0 ly l0.length) l1).2 == 0) := by rw [HLY.out]; rfl
     generalize (boundsR (leakP l0 ly l0.length) l1).1 = rb at hqq
     generalize (boundsR (leakP l0 ly l0.length) l1).2 = eb at hqq hex
     have HEX := Aside0.mk hex
     have HQQ := Aside0.mk hqq
     obtain ⟨lq, hlq⟩ : ∃ lq, lq = leakP l0 ly l0.length := ⟨_, rfl⟩
     have HLQ := Aside0.mk (show lq.length = l0.length by rw [hlq, leakP_len])
     rw [← hlq] at HQ HQQ
     rw [← HLQ.out] at HQ
     obtain ⟨hq1, hq2, hq3⟩ := Kd.R_reads' HQ.out
     have HRQ := Aside0.mk hq3
     have HCQ := Aside0.mk hq2
     clear hqq hex hlq hq1 hq2 hq3
     go_wp2_with (first | (go_at_call 22; rw [← HLQ.out]; (with_reducible refine (flow_Bounds.calls Aq cq lq A1 c1 l1 rb eb _ HRQ.out HCQ.out (Kd.C_below HR1.out HB.out) HC1.out HQQ.out).mono ?_); rintro e w9 ⟨vb, rfl, ho_, hb_⟩; have HH2 := Aside0.mk (show House w9 w0.heap.size A0 c0 l0 A1 l1.length c1 gh A2 c2 ps A3 c3 ly from ⟨blk_below HH.out.cell hb_, Kd.R_below HH.out.par hb_, Kd.R_below HH.out.lk hb_, HH.out.len, HH.out.lo⟩); have HG2 := Aside0.mk (grown_trans HG.out (grown_of_below hb_ _)); have HB2 := Aside0.mk (below_step HB.out hb_); clear HB HG HH ho_ hb_ hch1; have HB := HB2; have HG := HG2; have HH := HH2; clear HB2 HG2 HH2))
     go_ret
     exact ⟨by rw [HEX.out]; rfl, ⟨ly, HH.out⟩, HB.out, HG.out⟩
end
section
theorem slices_Clone_ints.nil_eq (A : Option Addr) (n c : Nat) (W : World) : (binOp .eql 26 (.slice A n c) (.slice none 0 0)).run Try.prog W = .ok (.bool A.isNone) W := by
 have h : ∀ d : Nat, (Op.equalIn (d + 1) 26 (.slice A n c) (.slice none 0 0)).run Try.prog W = .ok A.isNone W := fun d => by
  cases A <;> simp [Op.equalIn, run_underlying Try.underlying26]
 simp only [binOp]
 simp [Op.equal, Op.maxDepth, h 9999]
def slices_Clone_ints.f (l0 : List Int) : Option (List Int) := if l0.length ≤ 4398046511104 then some l0 else none
theorem slices_Clone_ints.calls (A0 : Option Addr) (c0 : Nat) (l0 : List Int) (r : List Int) (w : World) (hr0 : Kd.C (Kd.int .i64) w A0 l0.length l0) (hc0 : l0.length ≤ c0) (h : slices_Clone_ints.f l0 = some r) :
  Calls Try.prog 30 #[.slice A0 l0.length c0] w fun e w' => ∃ v0_ : Value, e = .returned v0_ ∧ Kd.R (Kd.int .i64) 3 w' w.heap.size (fun _ => True) v0_ r ∧ Below w.heap.size w w' := by
 unfold slices_Clone_ints.f at h
 by_cases hg : l0.length ≤ 4398046511104
 case neg => rw [if_neg hg] at h; cases h
 rw [if_pos hg] at h
 have e := Option.some.inj h
 subst e
 clear h
 have HG := Aside0.mk hg
 have HR0 := Aside0.mk hr0
 have HC0 := Aside0.mk hc0
 clear hg hr0 hc0
 have HB := Aside0.mk (Below.refl w.heap.size w)
 cases A0 with
 | none =>
  have e0 : l0 = [] := by
   have h2 := HR0.out.2.2
   cases l0 with
   | nil => rfl
   | cons a t => obtain ⟨ad, hh, _⟩ := h2 (by simp); cases hh
  subst e0
  have hnil : ∀ W, (binOp .eql 26 (.slice none 0 c0) (.slice none 0 0)).run Try.prog W = .ok (.bool true) W := fun W => slices_Clone_ints.nil_eq none _ _ W
  go_enter Try.func30, Try.ntmps30
  go_wp2
  go_ret
  exact ⟨_, rfl, Kd.R_nil _ _ _ _ _, HB.out⟩
 | some ad =>
  have hnil : ∀ W, (binOp .eql 26 (.slice (some ad) l0.length c0) (.slice none 0 0)).run Try.prog W = .ok (.bool false) W := fun W => slices_Clone_ints.nil_eq (some ad) _ _ W
  go_enter Try.func30, Try.ntmps30
  go_wp2_with (first | ((with_reducible refine gate_dst (N := 5) rfl ?_); (try (refine gate_guard (by rfl) ?_; dsimp only)); refine Kd.R_lit (Kd.int .i64) _ 3 ?hg (N := 5) ?hd (xs := ([] : List Int)) (inner := []) (ok := fun _ => True) (okp := fun _ => True) ?hr ?hp (fun _ hk => hk) trivial (Below.refl _ _) (Nat.le_refl _) (by simp) ?_; (case hd => rfl); (case hg => rfl); (case hr => first | (go_simp; done) | (go_simp; rfl)); (case hp => exact (Reps.none _ _)); intro v5 w1 ho hb hg_ hnew_; clear hg_ hnew_; have HO5 := Aside0.mk (Kd.R_lower ho (below_size HB.out)); have n1_ := Aside0.mk (below_step HB.out hb); clear HB; have HB := n1_; clear n1_ hb ho) | ((with_reducible refine gate_builtin (b := .append) (xs := #[.tmp 5, .tmp 6]) rfl ?_); at_builtin; refine Kd.R_append_rows (Kd.int .i64) (w0 := w) w.heap.size rfl (.tmp 5) (.tmp 6) 26 3 (.int .i64 0) 8 rfl Try.underlying26 info3 rfl (by decide) (by omega) v5 ([] : List Int) l0 _ _ _ (fun _ => True) (fun _ => False) rfl rfl HO5.out (Kd.C_below HR0.out HB.out) (fun _ _ h => h) (fun _ h => h.elim) (fun _ _ => trivial) HB.out (below_size HB.out) (by have := HG.out; simp only [List.length_nil]; omega) ?_; intro v7 w4 ho hb hg hat; have HO7 := Aside0.mk ho; have n0_ := Aside0.mk hb; clear HB; have HB := n0_; clear n0_ ho hb hg hat))
  go_ret
  exact ⟨_, rfl, HO7.out, HB.out⟩
end
section
open Go.Proofs.YtolmjhpapidmhaaH
def KeepI (w w' : World) : Prop := ∀ (k : Nat) (cs : Array Value), w.heap[k]? = some (Obj.cells cs 3 (0, 0)) → w'.heap[k]? = some (Obj.cells cs 3 (0, 0))
theorem KeepI.refl (w : World) : KeepI w w := fun _ _ h => h
theorem KeepI.trans {w w1 w2 : World} (h : KeepI w w1) (h' : KeepI w1 w2) : KeepI w w2 := fun k cs hk => h' k cs (h k cs hk)
theorem KeepI.below {w w' : World} (h : Below w.heap.size w w') : KeepI w w' := fun _ _ hk => blk_below hk h
theorem KeepI.grown {w w' : World} {v : Value} {e : Nat} (hg : w.grownBy w' v.ownBlock) (hty : ∀ k, v.ownBlock = some k → ∃ cells, w.heap[k]? = some (.cells cells e (0, 0))) (he : e ≠ 3) : KeepI w w' := fun k cs hk => blk_grown hk hg (fun e1 => by
 obtain ⟨cells, hc⟩ := hty k e1.symm
 rw [hk] at hc
 injection hc with hc
 injection hc with _ h2
 exact he h2.symm)
theorem KeepI.set {w : World} {g t : Nat} {cells : Array Value} (hb : w.heap[g]? = some (.cells cells t (0, 0))) (ht : t ≠ 3) (j : Nat) (u : Value) : KeepI w (w.setCell ⟨g, j, none⟩ u) := fun k cs hk => by
 by_cases e : k = g
 ·subst e
  rw [hk] at hb
  injection hb with hb
  injection hb with _ h2
  exact absurd h2.symm ht
 ·exact (Below.heap_setCell w ⟨g, j, none⟩ u k e).trans hk
theorem KeepI.R {w w' : World} {base : Nat} {ok : Nat → Prop} {v : Value} {xs : List Int} (hk : KeepI w w') (h : Kd.R (Kd.int .i64) 3 w base ok v xs) : Kd.R (Kd.int .i64) 3 w' base ok v xs :=
 Kd.R_mono (Kd.R_move (Kd.R_bound h) (fun k hk' => by
  obtain ⟨_, _, _, q, hq, cells, hc⟩ := hk'
  have e : q = 3 := by simpa [Kd.int, Kd.scalar] using hq
  subst e
  exact (hk k cells hc).trans hc.symm)) (fun _ h => h.1)
theorem row_one {w : World} {g : Nat} {p : Int} (h : w.heap[g]? = some (.cells #[.int .i64 p] 3 (0, 0))) : Kd.C (Kd.int .i64) w (some ⟨g, 0, none⟩) 1 [p] := by
 refine ⟨rfl, by decide, fun _ => ⟨_, rfl, fun j q hj => ?_⟩⟩
 cases j with
 | zero =>
  simp at hj
  subst hj
  refine ⟨[.int .i64 p], rfl, rfl, fun j' u hu => ?_⟩
  cases j' with
  | zero => simp at hu; subst hu; exact (blk_cell h 0).trans rfl
  | succ j' => simp at hu
 | succ j => simp at hj
structure Search (w0 w : World) (A0 : Option Addr) (c0 : Nat) (l0 : List S44) (A1 : Option Addr) (n1 c1 : Nat) (gh : Nat) (A2 : Option Addr) (c2 : Nat) (ps : List Int) (A3 : Option Addr) (c3 : Nat) (gb go : Nat) (sets : List (List Int)) : Prop where
 house : ∃ ys, House w w0.heap.size A0 c0 l0 A1 n1 c1 gh A2 c2 ps A3 c3 ys
 box : w.heap[gb]? = some (.cells #[.pointer (some ⟨gh, 0, none⟩)] 55 (0, 0))
 out : ∃ Ao co, w.heap[go]? = some (.cells #[.slice Ao sets.length co] 58 (0, 0)) ∧ Kd.R (Kd.slice 3 (Kd.int .i64)) 26 w w0.heap.size (fun _ => True) (.slice Ao sets.length co) sets
 lo : w0.heap.size ≤ gb ∧ w0.heap.size ≤ go
 below : Below w0.heap.size w0 w
section
variable {w0 w w' : World} {A0 : Option Addr} {c0 : Nat} {l0 : List S44} {A1 : Option Addr} {n1 c1 : Nat} {gh : Nat} {A2 : Option Addr} {c2 : Nat} {ps : List Int} {A3 : Option Addr} {c3 : Nat} {gb go : Nat} {sets : List (List Int)}
theorem House.below {base : Nat} {ys : List Bool} (h : House w base A0 c0 l0 A1 n1 c1 gh A2 c2 ps A3 c3 ys) (hb : Below w.heap.size w w') : House w' base A0 c0 l0 A1 n1 c1 gh A2 c2 ps A3 c3 ys :=
 ⟨blk_below h.cell hb, Kd.R_below h.par hb, Kd.R_below h.lk hb, h.len, h.lo⟩
theorem Search.later (h : Search w0 w A0 c0 l0 A1 n1 c1 gh A2 c2 ps A3 c3 gb go sets) (hb : Below w.heap.size w w') : Search w0 w' A0 c0 l0 A1 n1 c1 gh A2 c2 ps A3 c3 gb go sets := by
 obtain ⟨ys, hH⟩ := h.house
 obtain ⟨Ao, co, ho1, ho2⟩ := h.out
 exact ⟨⟨ys, hH.below hb⟩, blk_below h.box hb, ⟨Ao, co, blk_below ho1 hb, Kd.R_below ho2 hb⟩, h.lo, below_step h.below hb⟩
theorem House.set {base : Nat} {ys : List Bool} (h : House w base A0 c0 l0 A1 n1 c1 gh A2 c2 ps A3 c3 ys) {g t : Nat} {cells : Array Value} (hb : w.heap[g]? = some (.cells cells t (0, 0))) (hne : gh ≠ g) (h1 : 3 ≠ t) (h2 : 4 ≠ t) (j : Nat) (u : Value) : House (w.setCell ⟨g, j, none⟩ u) base A0 c0 l0 A1 n1 c1 gh A2 c2 ps A3 c3 ys := by
 have e1 : ∀ q, q ∈ 3 :: (Kd.int .i64).E → q ≠ t := by
  intro q hq
  have e : q = 3 := by simpa [Kd.int, Kd.scalar] using hq
  rw [e]
  exact h1
 have e2 : ∀ q, q ∈ 4 :: Kd.bool.E → q ≠ t := by
  intro q hq
  have e : q = 4 := by simpa [Kd.bool, Kd.scalar] using hq
  rw [e]
  exact h2
 exact ⟨(Below.heap_setCell w ⟨g, j, none⟩ u gh hne).trans h.cell, Kd.R_set h.par hb e1 j u, Kd.R_set h.lk hb e2 j u, h.len, h.lo⟩
end
theorem smallest1_calls (w0 w : World) (A0 : Option Addr) (c0 : Nat) (l0 : List (S44)) (A1 : Option Addr) (c1 : Nat) (l1 : List (S46)) (gh : Nat) (A2 : Option Addr) (c2 : Nat) (ps : List Int) (A3 : Option Addr) (c3 : Nat) (gb go : Nat) (sets : List (List Int)) (As : Option Addr) (cs : Nat) (ss : List Int)
  (hr0 : Kd.C k44 w0 A0 l0.length l0) (hc0 : l0.length ≤ c0) (hr1 : Kd.C k46 w0 A1 l1.length l1) (hc1 : l1.length ≤ c1) (h40 : l0.length ≤ 40) (hl1 : l1.length ≤ 140737488355328)
  (hS : Search w0 w A0 c0 l0 A1 l1.length c1 gh A2 c2 ps A3 c3 gb go sets) (hn : sets.length ≤ 1000000)
  (hs : Kd.R (Kd.int .i64) 3 w w0.heap.size (fun _ => True) (.slice As ss.length cs) ss) (hsl : ss.length ≤ 1000) (hsr : ∀ j : Int, 0 ≤ j → j < ss.length → 0 ≤ rd ss j ∧ rd ss j < l0.length) :
  Calls Try.prog 45 #[.slice As ss.length cs, .pointer (some ⟨gb, 0, none⟩), .pointer (some ⟨go, 0, none⟩)] w fun e w' => e = .returned (.tuple #[]) ∧ Search w0 w' A0 c0 l0 A1 l1.length c1 gh A2 c2 ps A3 c3 gb go (if explB l0 l1 ss = true then sets ++ [ss] else sets) ∧ KeepI w w' := by
 obtain ⟨ys, hH⟩ := hS.house
 obtain ⟨Ao, co, ho1, ho2⟩ := hS.out
 have HR0 := Aside0.mk hr0
 have HC0 := Aside0.mk hc0
 have HR1 := Aside0.mk hr1
 have HC1 := Aside0.mk hc1
 have H40 := Aside0.mk h40
 have HL1 := Aside0.mk hl1
 have HSL := Aside0.mk hsl
 have HSR := Aside0.mk hsr
 have HN := Aside0.mk hn
 have HH := Aside0.mk hH
 have HSS := Aside0.mk hs
 have BB := Aside0.mk hS.box
 have BO := Aside0.mk ho1
 have RO := Aside0.mk ho2
 have LO := Aside0.mk hS.lo
 have HB := Aside0.mk hS.below
 have hcb : w.cell? ⟨gb, 0, none⟩ = some (.pointer (some ⟨gh, 0, none⟩)) := (blk_cell hS.box 0).trans rfl
 clear hr0 hc0 hr1 hc1 h40 hl1 hsl hsr hn hH hs ho1 ho2 hS
 cases hx : explB l0 l1 ss with
 | false =>
  have HX := Aside0.mk hx
  clear hx
  go_enter Try.func45, Try.ntmps45
  go_wp2_with (first | (go_at_call 46; (with_reducible refine (explains_calls w0 _ A0 c0 l0 A1 c1 l1 gh A2 c2 ps A3 c3 ys As cs ss HB.out HR0.out HC0.out HR1.out HC1.out H40.out HL1.out HH.out HSS.out HSL.out HSR.out).mono ?_); rw [HX.out]; rintro e w1 ⟨rfl, hh_, hb_, hg_⟩; have HH1 := Aside0.mk hh_; have HB1 := Aside0.mk hb_; have BB1 := Aside0.mk (blk_grown BB.out hg_ (Kd.R_ne HH.out.lk BB.out (by decide))); have BO1 := Aside0.mk (blk_grown BO.out hg_ (Kd.R_ne HH.out.lk BO.out (by decide))); have RO1 := Aside0.mk (Kd.R_over' RO.out (Kd.R_typed HH.out.lk) (by decide) hg_); have HSS1 := Aside0.mk (Kd.R_over' HSS.out (Kd.R_typed HH.out.lk) (by decide) hg_); have KI1 := Aside0.mk (KeepI.grown hg_ (Kd.R_typed HH.out.lk) (by decide)); have hco : w1.cell? ⟨go, 0, none⟩ = some (.slice Ao sets.length co) := (blk_cell BO1.out 0).trans rfl; clear hh_ hb_ hg_ hcb))
  go_end0
  obtain ⟨ys', hH'⟩ := HH1.out
  exact ⟨rfl, ⟨⟨ys', hH'⟩, BB1.out, ⟨Ao, co, BO1.out, RO1.out⟩, LO.out, HB1.out⟩, KI1.out⟩
 | true =>
  have HX := Aside0.mk hx
  clear hx
  go_enter Try.func45, Try.ntmps45
  go_wp2_with (first | (go_at_call 46; (with_reducible refine (explains_calls w0 _ A0 c0 l0 A1 c1 l1 gh A2 c2 ps A3 c3 ys As cs ss HB.out HR0.out HC0.out HR1.out HC1.out H40.out HL1.out HH.out HSS.out HSL.out HSR.out).mono ?_); rw [HX.out]; rintro e w1 ⟨rfl, hh_, hb_, hg_⟩; have HH1 := Aside0.mk hh_; have HB1 := Aside0.mk hb_; have BB1 := Aside0.mk (blk_grown BB.out hg_ (Kd.R_ne HH.out.lk BB.out (by decide))); have BO1 := Aside0.mk (blk_grown BO.out hg_ (Kd.R_ne HH.out.lk BO.out (by decide))); have RO1 := Aside0.mk (Kd.R_over' RO.out (Kd.R_typed HH.out.lk) (by decide) hg_); have HSS1 := Aside0.mk (Kd.R_over' HSS.out (Kd.R_typed HH.out.lk) (by decide) hg_); have KI1 := Aside0.mk (KeepI.grown hg_ (Kd.R_typed HH.out.lk) (by decide)); have hco : w1.cell? ⟨go, 0, none⟩ = some (.slice Ao sets.length co) := (blk_cell BO1.out 0).trans rfl; clear hh_ hb_ hg_ hcb) | ((with_reducible refine gate_builtin (b := .append) (xs := #[.tmp 7, .tmp 9]) rfl ?_); at_builtin; refine Kd.R_append (Kd.slice 3 (Kd.int .i64)) (w0 := w0) w0.heap.size rfl (.tmp 7) (.tmp 9) 58 26 (.slice none 0 0) 24 rfl Try.underlying58 info26 rfl (by decide) (by omega) (.slice Ao sets.length co) sets ss [.slice As ss.length cs] (fun _ => True) (fun k => True ∧ some k ≠ (Value.slice Ao sets.length co).ownBlock) rfl rfl (Kd.M_row (Kd.R_apart' HSS1.out (Kd.R_typed RO1.out) (by decide))) (fun _ hk => hk) (fun _ _ => trivial) RO1.out HB1.out (below_size HB1.out) (by have := HN.out; omega) ?_; intro v10 w2 ho hb hg hat; obtain ⟨A2o, c2o, e2o⟩ := Kd.R_slice ho; subst e2o; have RO2 := Aside0.mk ho; have HB2 := Aside0.mk hb; have BB2 := Aside0.mk (blk_grown BB1.out hg (Kd.R_ne RO1.out BB1.out (by decide))); have BO2 := Aside0.mk (blk_grown BO1.out hg (Kd.R_ne RO1.out BO1.out (by decide))); have HH2 := Aside0.mk (show ∃ ys, House w2 w0.heap.size A0 c0 l0 A1 l1.length c1 gh A2 c2 ps A3 c3 ys from (by obtain ⟨ys', hH'⟩ := HH1.out; exact ⟨ys', ⟨blk_grown hH'.cell hg (Kd.R_ne RO1.out hH'.cell (by decide)), Kd.R_over' hH'.par (Kd.R_typed RO1.out) (by decide) hg, Kd.R_over' hH'.lk (Kd.R_typed RO1.out) (by decide) hg, hH'.len, hH'.lo⟩⟩)); have KI2 := Aside0.mk (KI1.out.trans (KeepI.grown hg (Kd.R_typed RO1.out) (by decide))); clear ho hb hg hat hco; have hco : w2.cell? ⟨go, 0, none⟩ = some (.slice Ao sets.length co) := (blk_cell BO2.out 0).trans rfl; have hfo : w2.frozen? ⟨go, 0, none⟩ = false := blk_frozen BO2.out 0))
  have el : sets.length + 1 = (sets ++ [ss]).length := by simp
  rw [el]
  obtain ⟨w3, hw3⟩ : ∃ w3, w3 = w2.setCell ⟨go, 0, none⟩ (.slice A2o (sets ++ [ss]).length c2o) := ⟨_, rfl⟩
  rw [← hw3]
  have BO3 := Aside0.mk (show w3.heap[go]? = some (.cells #[.slice A2o (sets ++ [ss]).length c2o] 58 (0, 0)) by rw [hw3]; exact blk_put BO2.out 0 _ rfl)
  have RO3 := Aside0.mk (show Kd.R (Kd.slice 3 (Kd.int .i64)) 26 w3 w0.heap.size (fun _ => True) (.slice A2o (sets ++ [ss]).length c2o) (sets ++ [ss]) by rw [hw3]; exact Kd.R_set RO2.out BO2.out (by decide) _ _)
  have BB3 := Aside0.mk (show w3.heap[gb]? = some (.cells #[.pointer (some ⟨gh, 0, none⟩)] 55 (0, 0)) by rw [hw3]; exact (Below.heap_setCell w2 ⟨go, 0, none⟩ _ gb (fun e => by have h1 := BB2.out; rw [e, BO2.out] at h1; injection h1 with h1; injection h1 with _ h2; exact absurd h2 (by decide))).trans BB2.out)
  have HH3 := Aside0.mk (show ∃ ys, House w3 w0.heap.size A0 c0 l0 A1 l1.length c1 gh A2 c2 ps A3 c3 ys from (by obtain ⟨ys', hH'⟩ := HH2.out; rw [hw3]; exact ⟨ys', hH'.set BO2.out (fun e => by have h1 := hH'.cell; rw [e, BO2.out] at h1; injection h1 with h1; injection h1 with _ h2; exact absurd h2 (by decide)) (by decide) (by decide) _ _⟩))
  have HB3 := Aside0.mk (show Below w0.heap.size w0 w3 by rw [hw3]; exact below_set HB2.out LO.out.2)
  have KI3 := Aside0.mk (show KeepI w w3 by rw [hw3]; exact KI2.out.trans (KeepI.set BO2.out (by decide) _ _))
  clear hw3
  go_end0
  exact ⟨rfl, ⟨HH3.out, BB3.out, ⟨A2o, c2o, BO3.out, RO3.out⟩, LO.out, HB3.out⟩, KI3.out⟩
def pick (l0 : List S44) (l1 : List S46) (ps ss : List Int) (f s : Nat) : List (List Int) := ((combos (ps.drop f) s).map (ss ++ ·)).filter (explB l0 l1)
theorem pick_zero (l0 : List S44) (l1 : List S46) (ps ss : List Int) (f : Nat) : pick l0 l1 ps ss f 0 = if explB l0 l1 ss = true then [ss] else [] := by
 unfold pick
 rw [combos_zero]
 simp only [List.map_cons, List.map_nil, List.append_nil]
 split
 ·rename_i h; rw [List.filter_cons_of_pos h]; rfl
 ·rename_i h; rw [List.filter_cons_of_neg h]; rfl
theorem pick_end (l0 : List S44) (l1 : List S46) (ps ss : List Int) (f s : Nat) (h : ps.length < f + s) (h0 : 0 < s) : pick l0 l1 ps ss f s = [] := by
 unfold pick
 rw [combos_long (by rw [List.length_drop]; omega)]
 rfl
theorem rd_drop (ps : List Int) (f : Nat) (h : f < ps.length) : ps.drop f = rd ps (f : Int) :: ps.drop (f + 1) := by
 rw [List.drop_eq_getElem_cons h]
 congr 1
 simp [rd, List.getD_eq_getElem?_getD, h]
theorem pick_succ (l0 : List S44) (l1 : List S46) (ps ss : List Int) (f s : Nat) (h : f < ps.length) : pick l0 l1 ps ss f (s + 1) = pick l0 l1 ps (ss ++ [rd ps (f : Int)]) (f + 1) s ++ pick l0 l1 ps ss (f + 1) (s + 1) := by
 unfold pick
 rw [rd_drop ps f h, combos_cons, List.map_append, List.filter_append, List.map_map]
 congr 3
 funext c
 simp
theorem pick_len (l0 : List S44) (l1 : List S46) (ps ss : List Int) (f s : Nat) : (pick l0 l1 ps ss f s).length ≤ (ps.length + 1) ^ s := by
 unfold pick
 refine Nat.le_trans (List.length_filter_le _ _) ?_
 rw [List.length_map]
 refine Nat.le_trans (combos_count _ _) (Nat.pow_le_pow_left ?_ _)
 rw [List.length_drop]
 omega
theorem rd_mem_of {P : Int → Prop} {ss : List Int} (h : ∀ x ∈ ss, P x) (j : Int) (h0 : 0 ≤ j) (h1 : j < ss.length) : P (rd ss j) := by
 have hj : j.toNat < ss.length := by omega
 have e : rd ss j = ss[j.toNat] := by simp [rd, List.getD_eq_getElem?_getD, hj]
 rw [e]
 exact h _ (List.getElem_mem hj)
theorem each_calls (w0 : World) (A0 : Option Addr) (c0 : Nat) (l0 : List (S44)) (A1 : Option Addr) (c1 : Nat) (l1 : List (S46)) (gh : Nat) (A2 : Option Addr) (c2 : Nat) (ps : List Int) (A3 : Option Addr) (c3 : Nat) (gb go : Nat)
  (hr0 : Kd.C k44 w0 A0 l0.length l0) (hc0 : l0.length ≤ c0) (hr1 : Kd.C k46 w0 A1 l1.length l1) (hc1 : l1.length ≤ c1) (h40 : l0.length ≤ 40) (hl1 : l1.length ≤ 140737488355328)
  (hpl : ps.length ≤ 40) (hps : ∀ x ∈ ps, 0 ≤ x ∧ x < l0.length) : ∀ (s : Nat) (w : World) (As : Option Addr) (cs : Nat) (ss : List Int) (f : Nat) (fr si : Int) (sets : List (List Int)),
  Search w0 w A0 c0 l0 A1 l1.length c1 gh A2 c2 ps A3 c3 gb go sets → sets.length + 42 ^ s ≤ 1000000 → fr = (f : Int) → si = (s : Int) → f ≤ ps.length → s ≤ 3 →
  Kd.R (Kd.int .i64) 3 w w0.heap.size (fun _ => True) (.slice As ss.length cs) ss → ss.length + s ≤ 100 → (∀ x ∈ ss, 0 ≤ x ∧ x < l0.length) →
  Calls Try.prog 44 #[.pointer (some ⟨gh, 0, none⟩), .slice As ss.length cs, .int .i64 fr, .int .i64 si, .func (.func 45) #[] #[.pointer (some ⟨gb, 0, none⟩), .pointer (some ⟨go, 0, none⟩)]] w fun e w' =>
   e = .returned (.tuple #[]) ∧ Search w0 w' A0 c0 l0 A1 l1.length c1 gh A2 c2 ps A3 c3 gb go (sets ++ pick l0 l1 ps ss f s) ∧ KeepI w w' := by
 have HR0 := Aside0.mk hr0
 have HC0 := Aside0.mk hc0
 have HR1 := Aside0.mk hr1
 have HC1 := Aside0.mk hc1
 have H40 := Aside0.mk h40
 have HL1 := Aside0.mk hl1
 have HPL := Aside0.mk hpl
 have HPS := Aside0.mk hps
 clear hr0 hc0 hr1 hc1 h40 hl1 hpl hps
 intro s
 induction s with
 | zero =>
  intro w As cs ss f fr si sets hS hn hfr hsi hfl hs3 hs hsl hsr
  have HS := Aside0.mk hS
  have HSS := Aside0.mk hs
  have HN := Aside0.mk (show sets.length ≤ 1000000 by simp at hn; omega)
  have HSL := Aside0.mk (show ss.length ≤ 1000 by omega)
  have HSR := Aside0.mk (fun j h0 h1 => rd_mem_of hsr j h0 h1)
  have d1 : (si == 0) = true := by rw [hsi]; rfl
  clear hS hn hfr hsi hfl hs3 hs hsl hsr
  go_enter Try.func44, Try.ntmps44
  go_wp2_with (first | ((with_reducible refine (smallest1_calls w0 _ A0 c0 l0 A1 c1 l1 gh A2 c2 ps A3 c3 gb go sets As cs ss HR0.out HC0.out HR1.out HC1.out H40.out HL1.out HS.out HN.out HSS.out HSL.out HSR.out).mono ?_); rintro e w1 ⟨rfl, hs_, hk_⟩; have HS1 := Aside0.mk hs_; have HK1 := Aside0.mk hk_; clear hs_ hk_))
  refine bodyPost_ret (results_none rfl _ _ _) rfl ?_
  refine ⟨rfl, ?_, HK1.out⟩
  rw [pick_zero]
  have h1 := HS1.out
  split at h1
  ·rename_i h2; rw [if_pos h2]; exact h1
  ·rename_i h2; rw [if_neg h2, List.append_nil]; exact h1
 | succ s ih =>
  intro w As cs ss f fr si sets hS hn hfr hsi hfl hs3 hs hsl hsr
  have d1 : (si == 0) = false := beq_eq_false_iff_ne.2 (by omega)
  have IH := Aside0.mk ih
  have HSI := Aside0.mk hsi
  have HS3 := Aside0.mk hs3
  have HSL := Aside0.mk hsl
  have HSR := Aside0.mk hsr
  have HN := Aside0.mk hn
  have hpw : 0 < 42 ^ s := Nat.pow_pos (by decide)
  have HPW := Aside0.mk hpw
  have HS0 := Aside0.mk hs
  have HSE := Aside0.mk hS
  have hz4 : si - 1 ≤ 9223372036854775807 := by omega
  have hz5 : -9223372036854775808 ≤ si - 1 := by omega
  have HFR := Aside0.mk (show fr = (f : Int) ∧ f ≤ ps.length from ⟨hfr, hfl⟩)
  clear ih hsi hs3 hsl hsr hn hpw hs hS hfr hfl
  go_enter Try.func44, Try.ntmps44
  go_wp2
  go_loopg [10] (ps.length - f) (fun kq v10 wr => ∃ (n : Nat) (i : Int) (st : List (List Int)), v10 = .int .i64 i ∧ Aside0 (i = (n : Int) ∧ kq + n = ps.length ∧ f ≤ n) ∧ Aside0 (Search w0 wr A0 c0 l0 A1 l1.length c1 gh A2 c2 ps A3 c3 gb go st) ∧ Aside0 (st ++ pick l0 l1 ps ss n (s + 1) = sets ++ pick l0 l1 ps ss f (s + 1) ∧ st.length ≤ sets.length + (n - f) * 42 ^ s) ∧ Aside0 (Kd.R (Kd.int .i64) 3 wr w0.heap.size (fun _ => True) (.slice As ss.length cs) ss) ∧ Aside0 (KeepI w wr))
  case atStart => exact ⟨f, fr, sets, rfl, ⟨HFR.out.1, by have := HFR.out.2; omega, Nat.le_refl _⟩, HSE, ⟨rfl, by omega⟩, HS0, ⟨KeepI.refl w⟩⟩
  case round =>
   clear HS0 HSE
   obtain ⟨n, i, st, rfl, HM, HS, HP, HSS, HK⟩ := hrel
   obtain ⟨ysr, hHr⟩ := HS.out.house
   have hch2 : wr.cell? ⟨gh, 2, none⟩ = some (.slice A2 ps.length c2) := (blk_cell hHr.cell 2).trans rfl
   have hz6 : i + si ≤ 9223372036854775807 := by have := HM.out; have := HSI.out; have := HS3.out; have := HPL.out; omega
   have hz7 : -9223372036854775808 ≤ i + si := by have := HM.out; have := HSI.out; omega
   by_cases hlt : n + (s + 1) ≤ ps.length
   ·have d2 : decide (i + si ≤ (ps.length : Int)) = true := decide_eq_true (by have := HM.out; have := HSI.out; omega)
    have HI2 := Aside0.mk (show 0 ≤ i ∧ i < ps.length from by have := HM.out; omega)
    have ci2 : (0 ≤ i) = True := eq_true HI2.out.1
    have ci3 : (i < ps.length) = True := eq_true HI2.out.2
    obtain ⟨adp, eap, hxp⟩ := Kd.at_int (Kd.R_reads' hHr.par).2.2 i HI2.out.1 HI2.out.2
    subst eap
    obtain ⟨p, hp⟩ : ∃ p, p = rd ps i := ⟨_, rfl⟩
    rw [← hp] at hxp
    have HPP := Aside0.mk hp
    have HLT := Aside0.mk hlt
    have hz1 : i + 1 ≤ 9223372036854775807 := by have := HI2.out; have := HPL.out; omega
    have hz2 : -9223372036854775808 ≤ i + 1 := by have := HI2.out; omega
    have hz3 : (wrap64 (i + 1)) = ((n + 1 : Nat) : Int) := by have := HM.out; unfold wrap64; omega
    have HZ3 := Aside0.mk hz3
    have hz8 : (wrap64 (si - 1)) = ((s : Nat) : Int) := by have := HSI.out; have := HS3.out; unfold wrap64; omega
    have HZ8 := Aside0.mk hz8
    have HPR := Aside0.mk (show 0 ≤ p ∧ p < l0.length by rw [hp]; exact rd_mem_of HPS.out i HI2.out.1 HI2.out.2)
    clear hp hlt hHr hz3 hz8
    go_wp2
    refine start_ (n := 18) (S := fun w' => w'.cell? ⟨gh, 2, none⟩ = some (.slice (some adp) ps.length c2) ∧ w'.cell? (adp.add i.toNat) = some (.int .i64 p)) (ds := [17]) #[n_, n_, n_, n_, n_, n_, n_, n_, n_, n_, n_, n_, n_, n_, n_, n_, n_, n_] (by kernel_rfl) rfl rfl ⟨hch2, hxp⟩ (fun hHeld => ?_)
    refine pv_ 0 28 (w_ 18 1) rfl ?_
    refine pv_ 1 29 (w_ 18 3) rfl ?_
    refine pv_ 3 31 (w_ 18 11) rfl ?_
    refine pv_ 4 32 (w_ 18 27) rfl ?_
    refine pv_ 5 33 (w_ 18 59) rfl ?_
    refine pv_ 7 35 (w_ 18 187) rfl ?_
    refine pv_ 12 40 (w_ 18 4283) rfl ?_
    refine pv_ 13 41 (w_ 18 12475) rfl ?_
    refine pv_ 14 42 (w_ 18 28859) rfl ?_
    refine pv_ 15 43 (w_ 18 61627) rfl ?_
    refine pv_ 16 44 (w_ 18 127163) rfl ?_
    refine tb_ 6 34 (w_ 18 127227) rfl hHeld (by rintro w' ⟨s0, s1⟩; go_simp; with_reducible rfl) ?_
    refine pv_ 8 36 (w_ 18 127483) rfl ?_
    refine tb_ 9 37 (w_ 18 127995) rfl hHeld (by rintro w' ⟨s0, s1⟩; go_simp; with_reducible rfl) ?_
    refine join_ (σ := Option Addr × Nat × Nat) 2 #[y_, y_, y_, y_, y_, y_, y_, y_, y_, y_, y_, n_, y_, y_, y_, y_, y_, n_] (fun s_ => [(30, .slice s_.1 ss.length s_.2.1), (38, .slice (some ⟨s_.2.2, 0, none⟩) 1 1)]) (fun s_ w' => (w'.cell? ⟨gh, 2, none⟩ = some (.slice (some adp) ps.length c2) ∧ w'.cell? (adp.add i.toNat) = some (.int .i64 p)) ∧ Below wr.heap.size wr w' ∧ Kd.R (Kd.int .i64) 3 w' wr.heap.size (fun _ => True) (.slice s_.1 ss.length s_.2.1) ss ∧ w'.heap[s_.2.2]? = some (.cells #[.int .i64 p] 3 (0, 0))) ?_ ?_
    rotate_left
    ·intro hCont
     refine two_ (i := 2) (j := 10) (Ni := some 30) (Nj := some 38) #[y_, y_, y_, y_, y_, y_, y_, y_, y_, y_, n_, n_, y_, y_, y_, y_, y_, n_] #[y_, y_, n_, y_, y_, y_, y_, y_, y_, y_, y_, n_, y_, y_, y_, y_, y_, n_] rfl rfl rfl rfl (by kernel_rfl) (by decide) (by decide) (fun K hK => ?_) (fun K hK => ?_)
     ·skip
      refine goes_ Try.func30 (by kernel_rfl) rfl #[.slice As ss.length cs] (by rfl) rfl rfl (by simp only [List.map_toArray, List.map_cons, List.map_nil]; rfl) ?_
      with_reducible refine (slices_Clone_ints.calls As cs ss ss _ (Kd.C_below (Kd.R_reads' HSS.out).2.2 (below_drew (Below.refl _ _))) (Kd.R_reads' HSS.out).2.1 (by unfold slices_Clone_ints.f; rw [if_pos (by have := HSL.out; omega)])).mono ?_
      rintro e w2 ⟨vq, rfl, hq_, hb_⟩
      refine ⟨_, rfl, ?_⟩
      obtain ⟨Aq, cq, eq_⟩ := Kd.R_slice hq_
      subst eq_
      have HQ2 := Aside0.mk hq_
      have HB2 := Aside0.mk hb_
      refine hK.out _ _ ⟨(hb_.cell (World.block_lt_of_cell? _ _ (hHeld.1))).trans (hHeld.1), (hb_.cell (World.block_lt_of_cell? _ _ (hHeld.2))).trans (hHeld.2)⟩ (fun hHeld => ?_)
      clear hK K
      refine norm_ (a' := ?_) ?_ ?_
      rotate_left
      ·show Act.put _ (some 30) _ = _
       simp only [Act.put, sI_, s0_, sS_, i64_w, i32_w]
       rfl
      refine one_ (i := 10) (N := some 38) (w_ 18 129023) rfl rfl (by kernel_rfl) (by decide) (fun K hK => ?_)
      refine value_ (w1 := ?_) (v := ?_) (by rfl) rfl ?_ ?_
      rotate_left 2
      ·go_simp
       constructor
       ·rfl
       ·rfl
      refine hK.out _ _ ⟨(World.cell?_alloc_lt _ _ _ (World.block_lt_of_cell? _ _ (hHeld.1))).trans (hHeld.1), (World.cell?_alloc_lt _ _ _ (World.block_lt_of_cell? _ _ (hHeld.2))).trans (hHeld.2)⟩ (fun hHeld => ?_)
      clear hK K
      refine norm_ (a' := ?_) ?_ ?_
      rotate_left
      ·show Act.put _ (some 38) _ = _
       simp only [Act.put, sI_, s0_, sS_, i64_w, i32_w]
       rfl
      exact norm_ (by simp only [putAll, Act.put, sI_, s0_, sS_]) (hCont (Aq, cq, w2.heap.size) _ ⟨hHeld, below_alloc (below_step (below_drew (Below.refl _ _)) HB2.out) _, Kd.R_alloc HQ2.out _, blk_new _ _⟩)
     ·skip
      refine value_ (w1 := ?_) (v := ?_) (by rfl) rfl ?_ ?_
      rotate_left 2
      ·go_simp
       constructor
       ·rfl
       ·rfl
      refine hK.out _ _ ⟨(World.cell?_alloc_lt _ _ _ (World.block_lt_of_cell? _ _ (hHeld.1))).trans (hHeld.1), (World.cell?_alloc_lt _ _ _ (World.block_lt_of_cell? _ _ (hHeld.2))).trans (hHeld.2)⟩ (fun hHeld => ?_)
      clear hK K
      refine norm_ (a' := ?_) ?_ ?_
      rotate_left
      ·show Act.put _ (some 38) _ = _
       simp only [Act.put, sI_, s0_, sS_, i64_w, i32_w]
       rfl
      refine one_ (i := 2) (N := some 30) (w_ 18 129023) rfl rfl (by kernel_rfl) (by decide) (fun K hK => ?_)
      refine goes_ Try.func30 (by kernel_rfl) rfl #[.slice As ss.length cs] (by rfl) rfl rfl (by simp only [List.map_toArray, List.map_cons, List.map_nil]; rfl) ?_
      with_reducible refine (slices_Clone_ints.calls As cs ss ss _ (Kd.C_below (Kd.R_reads' HSS.out).2.2 (below_drew (below_alloc (Below.refl _ _) _))) (Kd.R_reads' HSS.out).2.1 (by unfold slices_Clone_ints.f; rw [if_pos (by have := HSL.out; omega)])).mono ?_
      rintro e w2 ⟨vq, rfl, hq_, hb_⟩
      refine ⟨_, rfl, ?_⟩
      obtain ⟨Aq, cq, eq_⟩ := Kd.R_slice hq_
      subst eq_
      have HQ2 := Aside0.mk hq_
      have HB2 := Aside0.mk hb_
      refine hK.out _ _ ⟨(hb_.cell (World.block_lt_of_cell? _ _ (hHeld.1))).trans (hHeld.1), (hb_.cell (World.block_lt_of_cell? _ _ (hHeld.2))).trans (hHeld.2)⟩ (fun hHeld => ?_)
      clear hK K
      refine norm_ (a' := ?_) ?_ ?_
      rotate_left
      ·show Act.put _ (some 30) _ = _
       simp only [Act.put, sI_, s0_, sS_, i64_w, i32_w]
       rfl
      exact norm_ (by simp only [putAll, Act.put, sI_, s0_, sS_]) (hCont (Aq, cq, wr.heap.size) _ ⟨hHeld, below_step (below_drew (below_alloc (Below.refl _ _) _)) HB2.out, Kd.R_lower HQ2.out (by simp), blk_below (blk_drew (blk_new _ _)) HB2.out⟩)
    rintro ⟨Aq, cq, gl⟩ w3 ⟨hHeld, hb3_, hq3_, hl3_⟩
    have HB3 := Aside0.mk hb3_
    have HQ3 := Aside0.mk hq3_
    have HL3 := Aside0.mk hl3_
    clear hb3_ hq3_ hl3_
    refine norm_ (a' := ?_) ?_ ?_
    rotate_left
    ·simp only [putAll, Act.put, sI_, s0_, sS_]
     rfl
    refine one_ (i := 11) (N := some 39) (w_ 18 131071) rfl rfl (by kernel_rfl) (by decide) (fun K hK => ?_)
    refine Kd.R_append_rows_step (Kd.int .i64) (w0 := wr) wr.heap.size rfl (.tmp 30) (.tmp 38) 26 3 (.int .i64 0) 8 rfl Try.underlying26 info3 rfl (by decide) (by omega) (.slice Aq ss.length cq) ss [p] (some ⟨gl, 0, none⟩) 1 1 (fun _ => True) (fun _ => False) rfl rfl HQ3.out (row_one HL3.out) (fun _ _ h => h) (fun _ h => h.elim) (fun _ _ => trivial) HB3.out (below_size HB3.out) (by have := HSL.out; omega) ?_
    intro v4 w4 ho_ hb_ hg_ hat_
    obtain ⟨A4, c4, e4_⟩ := Kd.R_slice ho_
    subst e4_
    have HQ4 := Aside0.mk (Kd.R_lower ho_ (below_size HS.out.below))
    have HB4 := Aside0.mk hb_
    have HS4 := Aside0.mk (HS.out.later hb_)
    have HSS4 := Aside0.mk (Kd.R_below HSS.out hb_)
    have HK4 := Aside0.mk (KeepI.below hb_)
    have hm1 := (hb_.cell (World.block_lt_of_cell? _ _ hch2)).trans hch2
    have hm2 := (hb_.cell (World.block_lt_of_cell? _ _ hxp)).trans hxp
    clear ho_ hb_ hg_ hat_
    refine hK.out _ _ ⟨hm1, hm2⟩ (fun hHeld => ?_)
    clear hK K
    refine norm_ (a' := ?_) ?_ ?_
    rotate_left
    ·show Act.put _ (some 39) _ = _
     simp only [Act.put, sI_, s0_, sS_, i64_w, i32_w]
     rfl
    refine last_ (i := 17) (N := some 45) (w_ 18 262143) rfl rfl (by kernel_rfl) (by decide) (fun K hK => ?_)
    refine goes_ Try.func44 (by kernel_rfl) rfl #[.pointer (some ⟨gh, 0, none⟩), .slice A4 (ss ++ [p]).length c4, .int .i64 (wrap64 (i + 1)), .int .i64 (wrap64 (si - 1)), .func (.func 45) #[] #[.pointer (some ⟨gb, 0, none⟩), .pointer (some ⟨go, 0, none⟩)]] (by rfl) rfl rfl (by simp only [List.map_toArray, List.map_cons, List.map_nil]; rfl) ?_
    with_reducible refine (IH.out _ A4 c4 (ss ++ [p]) (n + 1) _ _ st HS4.out (by have h1 := HP.out.2; have h2 := HN.out; have h3 := HM.out; have h4 := HPL.out; have h5 := HLT.out; have h6 : (n - f) * 42 ^ s ≤ 40 * 42 ^ s := Nat.mul_le_mul_right _ (by omega); rw [Nat.pow_succ] at h2; omega) HZ3.out HZ8.out (by have := HLT.out; omega) (by have := HS3.out; omega) HQ4.out (by have := HSL.out; simp only [List.length_append, List.length_cons, List.length_nil]; omega) (by intro x hx; rcases List.mem_append.1 hx with hx | hx; exact HSR.out x hx; rw [List.mem_singleton.1 hx]; exact HPR.out)).mono ?_
    rintro e w5 ⟨rfl, hs_, hk_⟩
    refine ⟨_, rfl, ?_⟩
    have HS5 := Aside0.mk hs_
    have HK5 := Aside0.mk hk_
    clear hs_ hk_
    refine hK.out _ _ ?_
    clear hK K
    refine norm_ (a' := ?_) ?_ ?_
    rotate_left
    ·show Act.put _ (some 45) _ = _
     simp only [Act.put, sI_, s0_, sS_, i64_w, i32_w]
     rfl
    refine done_ (by kernel_rfl) ?_
    go_wp2
    go_roundg (gk - 1)
    case measure => have := HM.out; have := HLT.out; omega
    case rel =>
     refine ⟨n + 1, i + 1, st ++ pick l0 l1 ps (ss ++ [p]) (n + 1) s, ?_, ⟨by have := HM.out; omega, by have := HM.out; have := HLT.out; omega, by have := HM.out; omega⟩, HS5, ⟨?_, ?_⟩, ⟨HK5.out.R HSS4.out⟩, ⟨HK.out.trans (HK4.out.trans HK5.out)⟩⟩
     ·first | rfl | (simp; done)
     ·rw [← HP.out.1, pick_succ l0 l1 ps ss n s (by have := HLT.out; omega), List.append_assoc]
      have e : rd ps (n : Int) = p := by rw [HPP.out, HM.out.1]
      rw [e]
     ·rw [List.length_append]
      have h1 := pick_len l0 l1 ps (ss ++ [p]) (n + 1) s
      have h2 : (ps.length + 1) ^ s ≤ 42 ^ s := Nat.pow_le_pow_left (by have := HPL.out; omega) s
      have h3 := HP.out.2
      have h4 : n + 1 - f = (n - f) + 1 := by have := HM.out; omega
      rw [h4, Nat.succ_mul]
      omega
   ·have d2 : decide (i + si ≤ (ps.length : Int)) = false := decide_eq_false (by have := HM.out; have := HSI.out; omega)
    have HF := Aside0.mk (show st = sets ++ pick l0 l1 ps ss f (s + 1) by rw [← HP.out.1, pick_end l0 l1 ps ss n (s + 1) (by omega) (by omega), List.append_nil])
    clear hlt hHr
    go_wp2
    go_end0
    refine ⟨rfl, ?_, HK.out⟩
    rw [← HF.out]
    exact HS.out
theorem pow42 {s : Nat} (h : s ≤ 3) : 42 ^ s ≤ 100000 := Nat.le_trans (Nat.pow_le_pow_right (by decide) h) (by decide)
def smallM (l0 : List S44) (l1 : List S46) (ps : List Int) (s : Nat) : Nat → List (List Int)
 | 0 => []
 | d + 1 => if pick l0 l1 ps [] 0 s = [] then smallM l0 l1 ps (s + 1) d else pick l0 l1 ps [] 0 s
theorem smallest_calls (w0 w : World) (A0 : Option Addr) (c0 : Nat) (l0 : List (S44)) (A1 : Option Addr) (c1 : Nat) (l1 : List (S46)) (gh : Nat) (A2 : Option Addr) (c2 : Nat) (ps : List Int) (A3 : Option Addr) (c3 : Nat) (ys : List Bool) (a2 : Int) (m : Nat)
  (hb0 : Below w0.heap.size w0 w) (hr0 : Kd.C k44 w0 A0 l0.length l0) (hc0 : l0.length ≤ c0) (hr1 : Kd.C k46 w0 A1 l1.length l1) (hc1 : l1.length ≤ c1) (h40 : l0.length ≤ 40) (hl1 : l1.length ≤ 140737488355328)
  (hpl : ps.length ≤ 40) (hps : ∀ x ∈ ps, 0 ≤ x ∧ x < l0.length) (hh : House w w0.heap.size A0 c0 l0 A1 l1.length c1 gh A2 c2 ps A3 c3 ys) (ham : a2 = (m : Int)) (hm3 : m ≤ 3) :
  Calls Try.prog 27 #[.pointer (some ⟨gh, 0, none⟩), .int .i64 a2] w fun e w' => ∃ Ao co, e = .returned (.slice Ao (smallM l0 l1 ps 0 (m + 1)).length co) ∧ Kd.R (Kd.slice 3 (Kd.int .i64)) 26 w' w0.heap.size (fun _ => True) (.slice Ao (smallM l0 l1 ps 0 (m + 1)).length co) (smallM l0 l1 ps 0 (m + 1)) ∧ Below w0.heap.size w0 w' := by
 have HR0 := Aside0.mk hr0
 have HC0 := Aside0.mk hc0
 have HR1 := Aside0.mk hr1
 have HC1 := Aside0.mk hc1
 have H40 := Aside0.mk h40
 have HL1 := Aside0.mk hl1
 have HPL := Aside0.mk hpl
 have HPS := Aside0.mk hps
 have HH := Aside0.mk hh
 have HB := Aside0.mk hb0
 have HA := Aside0.mk (show a2 = (m : Int) ∧ m ≤ 3 from ⟨ham, hm3⟩)
 have hz1 : a2 + 1 ≤ 9223372036854775807 := by omega
 have hz2 : -9223372036854775808 ≤ a2 + 1 := by omega
 clear hr0 hc0 hr1 hc1 h40 hl1 hpl hps hh hb0 ham hm3
 obtain ⟨RES, hres⟩ : ∃ RES, RES = smallM l0 l1 ps 0 (m + 1) := ⟨_, rfl⟩
 rw [← hres]
 have HRES := Aside0.mk hres
 clear hres
 go_enter Try.func27, Try.ntmps27
 go_wp2_with (first | ((with_reducible refine gate_dst (N := 2) rfl ?_); refine box_event ?hg (N := 2) ?hd (cs := #[.pointer (some ⟨gh, 0, none⟩)]) (t := 55) ?hr ?_; (case hd => rfl); (case hg => rfl); (case hr => first | (go_simp; done) | (go_simp; rfl)); intro gb hg_B wb hbox_ hb_; have n0_ := Aside0.mk (below_step HB.out hb_); have BB := Aside0.mk hbox_; have GB := Aside0.mk (show w0.heap.size ≤ gb by rw [hg_B]; exact below_size HB.out); have EB := Aside0.mk hg_B; have hcB0 : wb.cell? ⟨gb, 0, none⟩ = some (.pointer (some ⟨gh, 0, none⟩)) := (blk_cell hbox_ 0).trans rfl; have hfB0 := blk_frozen hbox_ 0; have n1_ := Aside0.mk (HH.out.below hb_); clear HH; have HH := n1_; clear n1_; clear HB hg_B hbox_ hb_; have HB := n0_; clear n0_) | ((with_reducible refine gate_dst (N := 5) rfl ?_); refine box_event ?hg (N := 5) ?hd (cs := #[.slice none 0 0]) (t := 58) ?hr ?_; (case hd => rfl); (case hg => rfl); (case hr => first | (go_simp; done) | (go_simp; rfl)); intro go hg_O wo hbox_ hb_; have n0_ := Aside0.mk (below_step HB.out hb_); have BO := Aside0.mk hbox_; have GO := Aside0.mk (show w0.heap.size ≤ go by rw [hg_O]; exact below_size HB.out); have EO := Aside0.mk hg_O; have hcO0 : wo.cell? ⟨go, 0, none⟩ = some (.slice none 0 0) := (blk_cell hbox_ 0).trans rfl; have hfO0 := blk_frozen hbox_ 0; have n1_ := Aside0.mk (HH.out.below hb_); clear HH; have HH := n1_; clear n1_; have n2_ := Aside0.mk (blk_below BB.out hb_); clear BB; have BB := n2_; clear n2_; clear hcB0; have hcB0 : wo.cell? ⟨gb, 0, none⟩ = some (.pointer (some ⟨gh, 0, none⟩)) := (blk_cell BB.out 0).trans rfl; clear HB hg_O hbox_ hb_; have HB := n0_; clear n0_))
 have HS := Aside0.mk (show Search w0 wo A0 c0 l0 A1 l1.length c1 gh A2 c2 ps A3 c3 gb go [] from ⟨⟨_, HH.out⟩, BB.out, ⟨none, 0, BO.out, Kd.R_nil _ _ _ _ _⟩, ⟨GB.out, GO.out⟩, HB.out⟩)
 clear BB BO GB GO EB EO HB HH hcB0 hfB0 hcO0 hfO0
 go_loopg [9] (m + 1) (fun kq v9 wr => ∃ (s : Nat) (i : Int), v9 = .int .i64 i ∧ Aside0 (i = (s : Int) ∧ kq + s = m + 1) ∧ Aside0 (Search w0 wr A0 c0 l0 A1 l1.length c1 gh A2 c2 ps A3 c3 gb go []) ∧ Aside0 (RES = smallM l0 l1 ps s kq))
 case atStart => exact ⟨0, 0, rfl, ⟨rfl, rfl⟩, HS, HRES⟩
 case round =>
  clear HS HRES
  obtain ⟨s, i, rfl, HM, HS, HP⟩ := hrel
  by_cases hlt : s < m + 1
  ·have d1 : decide (i < a2 + 1) = true := decide_eq_true (by have := HM.out; have := HA.out; omega)
   have HM2 := Aside0.mk (show s ≤ 3 by have := HA.out; omega)
   have hz3 : i + 1 ≤ 9223372036854775807 := by have := HM.out; have := HA.out; omega
   have hz4 : -9223372036854775808 ≤ i + 1 := by have := HM.out; omega
   have hcb : wr.cell? ⟨gb, 0, none⟩ = some (.pointer (some ⟨gh, 0, none⟩)) := (blk_cell HS.out.box 0).trans rfl
   have HP42 := Aside0.mk (pow42 HM2.out)
   have HE := Aside0.mk (show Calls Try.prog 44 #[.pointer (some ⟨gh, 0, none⟩), .slice none 0 0, .int .i64 0, .int .i64 i, .func (.func 45) #[] #[.pointer (some ⟨gb, 0, none⟩), .pointer (some ⟨go, 0, none⟩)]] wr _ from
    each_calls w0 A0 c0 l0 A1 c1 l1 gh A2 c2 ps A3 c3 gb go HR0.out HC0.out HR1.out HC1.out H40.out HL1.out HPL.out HPS.out s wr none 0 [] 0 0 i [] HS.out (by rw [List.length_nil]; have := HP42.out; omega) rfl HM.out.1 (Nat.zero_le _) HM2.out (Kd.R_nil _ _ _ _ _) (by simp only [List.length_nil]; have := HM2.out; omega) (fun x hx => absurd hx (by simp)))
   rw [List.nil_append] at HE
   obtain ⟨X, hX⟩ : ∃ X, X = pick l0 l1 ps [] 0 s := ⟨_, rfl⟩
   rw [← hX] at HE
   obtain ⟨kq, hkq⟩ : ∃ kq, gk = kq + 1 := ⟨gk - 1, by have := HM.out; omega⟩
   have HPX := Aside0.mk (show RES = if X = [] then smallM l0 l1 ps (s + 1) kq else X by rw [HP.out, hkq, hX]; rfl)
   have HKQ := Aside0.mk hkq
   clear hX hlt hkq
   by_cases hp : X = []
   ·have z1 : decide (0 < (X.length : Int)) = false := by rw [hp]; rfl
    have z2 : decide (0 < X.length) = false := by rw [hp]; rfl
    have HX := Aside0.mk hp
    clear hp
    go_wp2_with (first | (go_at_call 44; (with_reducible refine HE.out.mono ?_); rintro e w5 ⟨rfl, hs_, hk_⟩; have HS5 := Aside0.mk hs_; obtain ⟨Ao, co, ho1_, ho2_⟩ := hs_.out; have RO5 := Aside0.mk ho2_; have hco : w5.cell? ⟨go, 0, none⟩ = some (.slice Ao X.length co) := (blk_cell ho1_ 0).trans rfl; clear hs_ hk_ ho1_ ho2_ hcb))
    go_roundg kq
    case measure => have := HKQ.out; omega
    case rel =>
     refine ⟨s + 1, i + 1, ?_, ⟨by have := HM.out; omega, by have := HM.out; have := HKQ.out; omega⟩, ⟨by rw [← HX.out]; exact HS5.out⟩, ⟨by rw [HPX.out, if_pos HX.out]⟩⟩
     first | rfl | (simp; done)
   ·have z1 : decide (0 < (X.length : Int)) = true := decide_eq_true (by have := List.length_pos_iff.2 hp; omega)
    have z2 : decide (0 < X.length) = true := decide_eq_true (List.length_pos_iff.2 hp)
    have HX := Aside0.mk hp
    clear hp
    go_wp2_with (first | (go_at_call 44; (with_reducible refine HE.out.mono ?_); rintro e w5 ⟨rfl, hs_, hk_⟩; have HS5 := Aside0.mk hs_; obtain ⟨Ao, co, ho1_, ho2_⟩ := hs_.out; have RO5 := Aside0.mk ho2_; have hco : w5.cell? ⟨go, 0, none⟩ = some (.slice Ao X.length co) := (blk_cell ho1_ 0).trans rfl; clear hs_ hk_ ho1_ ho2_ hcb))
    go_ret
    have e : RES = X := by rw [HPX.out, if_neg HX.out]
    rw [e]
    exact ⟨Ao, co, rfl, RO5.out, HS5.out.below⟩
  ·have d1 : decide (i < a2 + 1) = false := decide_eq_false (by have := HM.out; have := HA.out; omega)
   obtain ⟨Ao, co, ho1, ho2⟩ := HS.out.out
   have hco : wr.cell? ⟨go, 0, none⟩ = some (.slice Ao 0 co) := (blk_cell ho1 0).trans rfl
   have RO := Aside0.mk ho2
   have HG0 := Aside0.mk (show gk = 0 by have := HM.out; omega)
   clear hlt ho1 ho2
   go_wp2
   go_ret
   have e : RES = [] := by rw [HP.out, HG0.out]; rfl
   rw [e]
   exact ⟨Ao, co, rfl, RO.out, HS.out.below⟩
def explainR (l0 : List S44) (l1 : List S46) (a2 : Int) : List Int × Bool × Int :=
 if houseE l0 l1 a2 = 0 then (match smallM l0 l1 (parN l0 l0.length) 0 (a2.toNat + 1) with | [] => ([], false, 0) | s :: _ => (s, true, 0)) else ([], false, houseE l0 l1 a2)
theorem houseE_0 {l0 : List S44} {l1 : List S46} {a2 : Int} (h : houseE l0 l1 a2 = 0) : l0.length ≤ 40 ∧ 0 ≤ a2 ∧ a2 ≤ 3 := by
 unfold houseE at h
 split at h
 ·exact absurd h (by decide)
 ·split at h
  ·exact absurd h (by decide)
  ·omega
theorem parN_mem (l : List S44) (n : Nat) : ∀ x ∈ parN l n, 0 ≤ x ∧ x < n := by
 induction n with
 | zero => intro x hx; simp [parN] at hx
 | succ n ih =>
  intro x hx
  rw [parN_succ] at hx
  split at hx
  ·rcases List.mem_append.1 hx with h | h
   ·have := ih x h; omega
   ·rw [List.mem_singleton.1 h]; omega
  ·have := ih x hx; omega
end
section
open Go.Proofs.YtolmjhpapidmhaaH
theorem sets_get {w : World} {base : Nat} {Ao : Option Addr} {n co : Nat} {sets : List (List Int)} (h : Kd.R (Kd.slice 3 (Kd.int .i64)) 26 w base (fun _ => True) (.slice Ao n co) sets) (i : Int) (h0 : 0 ≤ i) (h1 : i < n) :
  ∃ ad Ai ci, Ao = some ad ∧ w.cell? (ad.add i.toNat) = some (.slice Ai (rdK sets i).length ci) ∧ Kd.R (Kd.int .i64) 3 w base (fun k => ∀ j, Ao = some j → k ≠ j.block) (.slice Ai (rdK sets i).length ci) (rdK sets i) := by
 have hl := (Kd.R_reads' h).1
 obtain ⟨g, cap, e, _⟩ := Kd.R_form h (by omega)
 injection e with e1 e2 e3
 subst e1
 obtain ⟨c, hcl, hM, hcc, _⟩ := Kd.R_elem h [] i h0 (by omega)
 obtain ⟨v, rfl, hR⟩ := hM
 obtain ⟨Ai, ci, rfl⟩ := Kd.R_slice hR
 refine ⟨_, Ai, ci, rfl, ?_, Kd.R_mono hR (fun k hk j ej => by cases ej; exact hk.2)⟩
 have := hcc 0 _ rfl
 have hsz : (Kd.slice 3 (Kd.int .i64)).sz = 1 := rfl
 rw [hsz, Nat.mul_one, Nat.add_zero] at this
 rw [add_plain]
 exact this
def leak_Explain.f (l0 : List (S44)) (l1 : List (S46)) (a2 : Int) : Option (List Int × Bool × Int) := if l0.length ≤ 5864062014805 ∧ l1.length ≤ 140737488355328 then some (explainR l0 l1 a2) else none
theorem leak_Explain.calls (A0 : Option Addr) (c0 : Nat) (l0 : List (S44)) (A1 : Option Addr) (c1 : Nat) (l1 : List (S46)) (a2 : Int) (r1 : List Int) (r2 : Bool) (r3 : Int) (w : World) (hr0 : Kd.C k44 w A0 l0.length l0) (hc0 : l0.length ≤ c0) (hr1 : Kd.C k46 w A1 l1.length l1) (hc1 : l1.length ≤ c1) (h : leak_Explain.f l0 l1 a2 = some (r1, r2, r3)) :
  Calls Try.prog 13 #[.slice A0 l0.length c0, .slice A1 l1.length c1, .int .i64 a2] w fun e w' => ∃ v0_ : Value, e = .returned (.tuple #[v0_, .bool r2, .int .i64 r3]) ∧ Kd.R (Kd.int .i64) 3 w' w.heap.size (fun _ => True) v0_ r1 ∧ Below w.heap.size w w' := by
 have hu44 := Try.underlying44
 unfold leak_Explain.f at h
 by_cases hs : l0.length ≤ 5864062014805 ∧ l1.length ≤ 140737488355328
 case neg => rw [if_neg hs] at h; cases h
 rw [if_pos hs] at h
 have h := Option.some.inj h
 unfold explainR at h
 have HR0 := Aside0.mk hr0
 have HC0 := Aside0.mk hc0
 have HR1 := Aside0.mk hr1
 have HC1 := Aside0.mk hc1
 have HSZ := Aside0.mk hs
 have HB := Aside0.mk (Below.refl w.heap.size w)
 clear hr0 hc0 hr1 hc1 hs
 obtain ⟨E, hE⟩ : ∃ E, E = houseE l0 l1 a2 := ⟨_, rfl⟩
 rw [← hE] at h
 by_cases he : E = 0
 case neg =>
  rw [if_neg he] at h
  obtain ⟨rfl, rfl, rfl⟩ := Prod.mk.inj h |>.imp id Prod.mk.inj
  have d1 : (E == 0) = false := beq_eq_false_iff_ne.2 he
  have d1' : (E != 0) = true := bne_iff_ne.2 he
  have HE := Aside0.mk (And.intro hE.symm he)
  clear h hE he
  go_enter Try.func13, Try.ntmps13
  go_wp2_with (first | (go_at_call 26; (with_reducible refine (newHouse_bad A0 c0 l0 A1 c1 l1 a2 E _ (Kd.C_below HR0.out HB.out) HC0.out (Kd.C_below HR1.out HB.out) HC1.out HSZ.out HE.out.1 HE.out.2).mono ?_); rintro e w1 ⟨rfl, hb_⟩; have n0_ := Aside0.mk (below_step HB.out hb_); clear HB hb_; have HB := n0_; clear n0_))
  go_ret3
  exact ⟨_, rfl, Kd.R_nil _ _ _ _ _, HB.out⟩
 rw [if_pos he] at h
 have HE := Aside0.mk (show houseE l0 l1 a2 = 0 from hE.symm.trans he)
 clear hE he E
 obtain ⟨X, hX⟩ : ∃ X, X = smallM l0 l1 (parN l0 l0.length) 0 (a2.toNat + 1) := ⟨_, rfl⟩
 rw [← hX] at h
 have HX := Aside0.mk hX
 clear hX
 cases X with
 | nil =>
  obtain ⟨rfl, rfl, rfl⟩ := Prod.mk.inj h |>.imp id Prod.mk.inj
  clear h
  go_enter Try.func13, Try.ntmps13
  go_wp2_with (first | (go_at_call 26; (with_reducible refine (newHouse_ok A0 c0 l0 A1 c1 l1 a2 _ (Kd.C_below HR0.out HB.out) HC0.out (Kd.C_below HR1.out HB.out) HC1.out HSZ.out HE.out).mono ?_); rintro e w1 ⟨gh, A2, c2, A3, c3, ys, rfl, hh_, hb_⟩; have HH := Aside0.mk hh_; have n0_ := Aside0.mk hb_; clear HB hb_ hh_; have HB := n0_; clear n0_) | (go_at_call 27; (with_reducible refine (smallest_calls w w1 A0 c0 l0 A1 c1 l1 gh A2 c2 (parN l0 l0.length) A3 c3 ys a2 a2.toNat HB.out HR0.out HC0.out HR1.out HC1.out (houseE_0 HE.out).1 HSZ.out.2 (Nat.le_trans (parN_len _ _) (houseE_0 HE.out).1) (parN_mem l0 l0.length) HH.out (by have := houseE_0 HE.out; omega) (by have := houseE_0 HE.out; omega)).mono ?_); rw [← HX.out]; rintro e w2 ⟨Ao, co, rfl, ho_, hb_⟩; clear HB HH; have HB := Aside0.mk hb_; have RO := Aside0.mk ho_; skip; clear hb_ ho_))
  go_ret3
  exact ⟨_, rfl, Kd.R_nil _ _ _ _ _, HB.out⟩
 | cons s0 rest =>
  obtain ⟨rfl, rfl, rfl⟩ := Prod.mk.inj h |>.imp id Prod.mk.inj
  clear h
  obtain ⟨X, hx⟩ : ∃ X, X = s0 :: rest := ⟨_, rfl⟩
  rw [← hx] at HX
  have z1 : ((X.length : Int) == 0) = false := beq_eq_false_iff_ne.2 (by rw [hx, List.length_cons]; omega)
  have z2 : (X.length == 0) = false := beq_eq_false_iff_ne.2 (by rw [hx]; simp)
  have z3 : (0 < X.length) = True := eq_true (by rw [hx]; simp)
  have z4 : ((0 : Int) < (X.length : Int)) = True := eq_true (by rw [hx, List.length_cons]; omega)
  have HXC := Aside0.mk hx
  clear hx
  go_enter Try.func13, Try.ntmps13
  go_wp2_with (first | (go_at_call 26; (with_reducible refine (newHouse_ok A0 c0 l0 A1 c1 l1 a2 _ (Kd.C_below HR0.out HB.out) HC0.out (Kd.C_below HR1.out HB.out) HC1.out HSZ.out HE.out).mono ?_); rintro e w1 ⟨gh, A2, c2, A3, c3, ys, rfl, hh_, hb_⟩; have HH := Aside0.mk hh_; have n0_ := Aside0.mk hb_; clear HB hb_ hh_; have HB := n0_; clear n0_) | (go_at_call 27; (with_reducible refine (smallest_calls w w1 A0 c0 l0 A1 c1 l1 gh A2 c2 (parN l0 l0.length) A3 c3 ys a2 a2.toNat HB.out HR0.out HC0.out HR1.out HC1.out (houseE_0 HE.out).1 HSZ.out.2 (Nat.le_trans (parN_len _ _) (houseE_0 HE.out).1) (parN_mem l0 l0.length) HH.out (by have := houseE_0 HE.out; omega) (by have := houseE_0 HE.out; omega)).mono ?_); rw [← HX.out]; rintro e w2 ⟨Ao, co, rfl, ho_, hb_⟩; clear HB HH; have HB := Aside0.mk hb_; have RO := Aside0.mk ho_; obtain ⟨ad, Ai, ci, ea_, hx0, hr_⟩ := sets_get ho_ 0 (Int.le_refl _) (of_eq_true z4); subst ea_; have HR3 := Aside0.mk hr_; have hx1 : w2.cell? ad = some (.slice Ai (rdK X 0).length ci) := hx0; clear hr_ hx0; clear hb_ ho_))
  go_ret3
  have e0 : rdK X 0 = s0 := by rw [HXC.out]; rfl
  rw [e0] at HR3 ⊢
  exact ⟨_, rfl, Kd.R_mono HR3.out (fun _ _ => trivial), HB.out⟩
end
section
def cohousingref30_Same.l0 : Nat → List Int → List Int → Int → Option (Bool)
 | 0, _, _, _ => none
 | k + 1, x0, x1, x5 => if x5 < (x0.length : Int) then (if 0 ≤ x5 then (if x5 < (x1.length : Int) then (if (rd x0 x5) = (rd x1 x5) then (cohousingref30_Same.l0 k x0 x1 (wrap64 (x5 + 1))) else (some false)) else (none)) else (none)) else (some true)
def cohousingref30_Same.f (k : Nat) (l0 : List Int) (l1 : List Int) : Option (Bool) := if (l0.length : Int) = (l1.length : Int) then (cohousingref30_Same.l0 k l0 l1 0) else (some false)
theorem cohousingref30_Same.mono_l : ∀ k, (∀ y0 y1 y2, LeO (cohousingref30_Same.l0 k y0 y1 y2) (cohousingref30_Same.l0 (k + 1) y0 y1 y2))
 | 0 => fun _ _ _ r h => by simp [cohousingref30_Same.l0] at h
 | k + 1 => by
  have ih0 := cohousingref30_Same.mono_l k
  ·intro y0 y1 y2
   unfold cohousingref30_Same.l0
   repeat' first
   | (with_reducible exact ih0 _ _ _)
   | (with_reducible exact LeO.refl _)
   | (with_reducible exact LeO.none _)
   | (with_reducible refine LeO.ite ?_ ?_)
   | (with_reducible refine LeO.bind ?_ (fun _ => ?_))
   | exact ih0 _ _ _
   | exact LeO.none _
   | refine LeO.ite ?_ ?_
   | refine LeO.bind ?_ (fun _ => ?_)
theorem cohousingref30_Same.mono : ∀ a0 a1 k, LeO (cohousingref30_Same.f k a0 a1) (cohousingref30_Same.f (k + 1) a0 a1) := by
 intro a0 a1 k
 have ih0 := cohousingref30_Same.mono_l k
 unfold cohousingref30_Same.f
 repeat' first
   | (with_reducible exact ih0 _ _ _)
   | (with_reducible exact LeO.refl _)
   | (with_reducible exact LeO.none _)
   | (with_reducible refine LeO.ite ?_ ?_)
   | (with_reducible refine LeO.bind ?_ (fun _ => ?_))
   | exact ih0 _ _ _
   | exact LeO.none _
   | refine LeO.ite ?_ ?_
   | refine LeO.bind ?_ (fun _ => ?_)
theorem cohousingref30_Same.calls (k : Nat) (A0 : Option Addr) (c0 : Nat) (l0 : List Int) (A1 : Option Addr) (c1 : Nat) (l1 : List Int) (r : Bool) (w : World) (hr0 : Kd.C (Kd.int .i64) w A0 l0.length l0) (hc0 : l0.length ≤ c0) (hr1 : Kd.C (Kd.int .i64) w A1 l1.length l1) (hc1 : l1.length ≤ c1) (h : cohousingref30_Same.f k l0 l1 = some r) :
  Calls Try.prog 15 #[.slice A0 l0.length c0, .slice A1 l1.length c1] w fun e w' => e = .returned (.bool r) ∧ Drawn0 w w' := by
 have HR0 := Aside0.mk hr0
 have HC0 := Aside0.mk hc0
 clear hr0 hc0
 have HR1 := Aside0.mk hr1
 have HC1 := Aside0.mk hc1
 clear hr1 hc1
 have H : (if (l0.length : Int) = (l1.length : Int) then (cohousingref30_Same.l0 k l0 l1 0) else (some false)) = some r := h
 clear h
 by_cases c3 : (l0.length : Int) = (l1.length : Int)
 ·rw [if_pos c3] at H
  have c3b0 : ((l0.length : Int) == (l1.length : Int)) = true := beq_iff_eq.mpr c3
  have c3b1 : ((l0.length : Int) != (l1.length : Int)) = false := bne_eq_false_iff_eq.mpr c3
  have c3b2 : (l0.length == l1.length) = true := by first | simpa using c3 | (simp at c3 ⊢; omega)
  clear c3
  have H' := Aside0.mk H
  clear H
  go_enter Try.func15, Try.ntmps15
  go_wp2
  repeat (go_quiet (fail); try go_wp2)
  go_loopg [5] k (fun kq v5 w' => ∃ (x5_1 : Int), v5 = .int .i64 x5_1 ∧ Aside0 (cohousingref30_Same.l0 kq l0 l1 x5_1 = some r) ∧ Aside0 (kq ≤ k) ∧ Drawn0 w w')
  case atStart => exact ⟨(0), sd_, H', ⟨Nat.le_refl _⟩, by repeat (first | exact Drawn0.refl _ | apply Drawn0.step)⟩
  case round =>
   clear H'
   try clear c1
   try clear p2
   try clear c3
   try clear c3b0
   try clear c3b1
   try clear c3b2
   obtain ⟨x5_1, rfl, HA, HK1, ⟨m1, rfl⟩⟩ := hrel
   cases gk with
   | zero => exact absurd HA.out (by simp [cohousingref30_Same.l0])
   | succ k1 =>
    have H := HA.out
    clear HA
    simp only [cohousingref30_Same.l0] at H
    by_cases c4 : x5_1 < (l0.length : Int)
    ·rw [if_pos c4] at H
     have c4b0 : decide (x5_1 < (l0.length : Int)) = true := decide_eq_true c4
     clear c4
     by_cases c5 : 0 ≤ x5_1
     ·rw [if_pos c5] at H
      have c5b0 : decide (0 ≤ x5_1) = true := decide_eq_true c5
      clear c5
      by_cases c6 : x5_1 < (l1.length : Int)
      ·rw [if_pos c6] at H
       have c6b0 : decide (x5_1 < (l1.length : Int)) = true := decide_eq_true c6
       clear c6
       by_cases c7 : (rd l0 x5_1) = (rd l1 x5_1)
       ·rw [if_pos c7] at H
        have c7b0 : ((rd l0 x5_1) == (rd l1 x5_1)) = true := beq_iff_eq.mpr c7
        have c7b1 : ((rd l0 x5_1) != (rd l1 x5_1)) = false := bne_eq_false_iff_eq.mpr c7
        clear c7
        have H' := Aside0.mk H
        clear H
        have p121 : 0 ≤ (x5_1 : Int) := od_
        have q121 : x5_1 < (l0.length : Int) := od_
        obtain ⟨ad121, e121, hx121_0⟩ := Kd.at_int HR0.out x5_1 p121 q121
        cases e121
        replace p121 := eq_true p121
        replace q121 := eq_true q121
        have p122 : 0 ≤ (x5_1 : Int) := od_
        have q122 : x5_1 < (l1.length : Int) := od_
        obtain ⟨ad122, e122, hx122_0⟩ := Kd.at_int HR1.out x5_1 p122 q122
        cases e122
        replace p122 := eq_true p122
        replace q122 := eq_true q122
        go_wp2
        repeat (go_quiet (fail); try go_wp2)
        go_roundg k1
        case measure => have := HK1.out; omega
        case rel => exact ⟨(wrap64 (x5_1 + 1)), sd_, H', ⟨by have := HK1.out; omega⟩, by repeat (first | exact Drawn0.refl _ | apply Drawn0.step)⟩
       ·rw [if_neg c7] at H
        have c7b0 : ((rd l0 x5_1) == (rd l1 x5_1)) = false := beq_eq_false_iff_ne.mpr c7
        have c7b1 : ((rd l0 x5_1) != (rd l1 x5_1)) = true := bne_iff_ne.mpr c7
        obtain rfl := Option.some.inj H
        have p121 : 0 ≤ (x5_1 : Int) := od_
        have q121 : x5_1 < (l0.length : Int) := od_
        obtain ⟨ad121, e121, hx121_0⟩ := Kd.at_int HR0.out x5_1 p121 q121
        cases e121
        replace p121 := eq_true p121
        replace q121 := eq_true q121
        have p122 : 0 ≤ (x5_1 : Int) := od_
        have q122 : x5_1 < (l1.length : Int) := od_
        obtain ⟨ad122, e122, hx122_0⟩ := Kd.at_int HR1.out x5_1 p122 q122
        cases e122
        replace p122 := eq_true p122
        replace q122 := eq_true q122
        go_wp2
        repeat (go_quiet (fail); try go_wp2)
        go_ret
        exact ⟨by first | rfl | (simp; done) | (simp [*]; done), by repeat (first | exact Drawn0.refl _ | apply Drawn0.step)⟩
      ·rw [if_neg c6] at H
       exact absurd H (by simp)
     ·rw [if_neg c5] at H
      exact absurd H (by simp)
    ·rw [if_neg c4] at H
     have c4b0 : decide (x5_1 < (l0.length : Int)) = false := decide_eq_false c4
     clear c4
     obtain rfl := Option.some.inj H
     go_wp2
     repeat (go_quiet (fail); try go_wp2)
     go_ret
     exact ⟨by first | rfl | (simp; done) | (simp [*]; done), by repeat (first | exact Drawn0.refl _ | apply Drawn0.step)⟩
 ·rw [if_neg c3] at H
  have c3b0 : ((l0.length : Int) == (l1.length : Int)) = false := beq_eq_false_iff_ne.mpr c3
  have c3b1 : ((l0.length : Int) != (l1.length : Int)) = true := bne_iff_ne.mpr c3
  have c3b2 : (l0.length == l1.length) = false := by first | simpa using c3 | (simp at c3 ⊢; omega)
  obtain rfl := Option.some.inj H
  go_enter Try.func15, Try.ntmps15
  go_wp2
  repeat (go_quiet (fail); try go_wp2)
  go_ret
  exact ⟨by first | rfl | (simp; done) | (simp [*]; done), by repeat (first | exact Drawn0.refl _ | apply Drawn0.step)⟩
end
section
def slices_Index_int_int.l0 : Nat → List Int → Int → Int → Int → Option (Int)
 | 0, _, _, _, _ => none
 | k + 1, x0, x1, x7, x8 => if x8 < x7 then (if 0 ≤ x8 then (if x8 < (x0.length : Int) then (if x1 = (rd x0 x8) then (some x8) else (slices_Index_int_int.l0 k x0 x1 x7 (wrap64 (x8 + 1)))) else (none)) else (none)) else (some (-1))
def slices_Index_int_int.f (k : Nat) (l0 : List Int) (a1 : Int) : Option (Int) := slices_Index_int_int.l0 k l0 a1 (l0.length : Int) 0
theorem slices_Index_int_int.calls (k : Nat) (A0 : Option Addr) (c0 : Nat) (l0 : List Int) (a1 : Int) (r : Int) (w : World) (hr0 : Kd.C (Kd.int .i64) w A0 l0.length l0) (hc0 : l0.length ≤ c0) (h : slices_Index_int_int.f k l0 a1 = some r) :
  Calls Try.prog 49 #[.slice A0 l0.length c0, .int .i64 a1] w fun e w' => e = .returned (.int .i64 r) ∧ Drawn0 w w' := by
 have HR0 := Aside0.mk hr0
 have HC0 := Aside0.mk hc0
 clear hr0 hc0
 have H : (slices_Index_int_int.l0 k l0 a1 (l0.length : Int) 0) = some r := h
 clear h
 have H' := Aside0.mk H
 clear H
 go_enter Try.func49, Try.ntmps49
 go_wp2
 go_loopg [8] k (fun kq v8 w' => ∃ (x8_1 : Int), v8 = .int .i64 x8_1 ∧ Aside0 (slices_Index_int_int.l0 kq l0 a1 (l0.length : Int) x8_1 = some r) ∧ Aside0 (kq ≤ k) ∧ Drawn0 w w')
 case atStart => exact ⟨(0), sd_, H', ⟨Nat.le_refl _⟩, by repeat (first | exact Drawn0.refl _ | apply Drawn0.step)⟩
 case round =>
  clear H'
  try clear p2
  obtain ⟨x8_1, rfl, HA, HK1, ⟨m1, rfl⟩⟩ := hrel
  cases gk with
  | zero => exact absurd HA.out (by simp [slices_Index_int_int.l0])
  | succ k1 =>
   have H := HA.out
   clear HA
   simp only [slices_Index_int_int.l0] at H
   by_cases c3 : x8_1 < (l0.length : Int)
   ·rw [if_pos c3] at H
    have c3b0 : decide (x8_1 < (l0.length : Int)) = true := decide_eq_true c3
    clear c3
    by_cases c4 : 0 ≤ x8_1
    ·rw [if_pos c4] at H
     have c4b0 : decide (0 ≤ x8_1) = true := decide_eq_true c4
     clear c4
     by_cases c5 : x8_1 < (l0.length : Int)
     ·rw [if_pos c5] at H
      have c5b0 : decide (x8_1 < (l0.length : Int)) = true := decide_eq_true c5
      clear c5
      by_cases c6 : a1 = (rd l0 x8_1)
      ·rw [if_pos c6] at H
       have c6b0 : (a1 == (rd l0 x8_1)) = true := beq_iff_eq.mpr c6
       have c6b1 : (a1 != (rd l0 x8_1)) = false := bne_eq_false_iff_eq.mpr c6
       clear c6
       obtain rfl := Option.some.inj H
       have p123 : 0 ≤ (x8_1 : Int) := od_
       have q123 : x8_1 < (l0.length : Int) := od_
       obtain ⟨ad123, e123, hx123_0⟩ := Kd.at_int HR0.out x8_1 p123 q123
       cases e123
       replace p123 := eq_true p123
       replace q123 := eq_true q123
       go_wp2
       go_ret
       exact ⟨by first | rfl | (simp; done) | (simp [*]; done), by repeat (first | exact Drawn0.refl _ | apply Drawn0.step)⟩
      ·rw [if_neg c6] at H
       have c6b0 : (a1 == (rd l0 x8_1)) = false := beq_eq_false_iff_ne.mpr c6
       have c6b1 : (a1 != (rd l0 x8_1)) = true := bne_iff_ne.mpr c6
       have H' := Aside0.mk H
       clear H
       have p123 : 0 ≤ (x8_1 : Int) := od_
       have q123 : x8_1 < (l0.length : Int) := od_
       obtain ⟨ad123, e123, hx123_0⟩ := Kd.at_int HR0.out x8_1 p123 q123
       cases e123
       replace p123 := eq_true p123
       replace q123 := eq_true q123
       go_wp2
       go_roundg k1
       case measure => have := HK1.out; omega
       case rel => exact ⟨(wrap64 (x8_1 + 1)), sd_, H', ⟨by have := HK1.out; omega⟩, by repeat (first | exact Drawn0.refl _ | apply Drawn0.step)⟩
     ·rw [if_neg c5] at H
      exact absurd H (by simp)
    ·rw [if_neg c4] at H
     exact absurd H (by simp)
   ·rw [if_neg c3] at H
    have c3b0 : decide (x8_1 < (l0.length : Int)) = false := decide_eq_false c3
    clear c3
    obtain rfl := Option.some.inj H
    go_wp2
    go_ret
    exact ⟨by first | rfl | (simp; done) | (simp [*]; done), by repeat (first | exact Drawn0.refl _ | apply Drawn0.step)⟩
end
section
def slices_Contains_int_int.f (k : Nat) (l0 : List Int) (a1 : Int) : Option (Bool) := (slices_Index_int_int.f k l0 a1).bind fun t124 => (some (decide (t124 ≥ 0)))
theorem slices_Contains_int_int.calls (k : Nat) (A0 : Option Addr) (c0 : Nat) (l0 : List Int) (a1 : Int) (r : Bool) (w : World) (hr0 : Kd.C (Kd.int .i64) w A0 l0.length l0) (hc0 : l0.length ≤ c0) (h : slices_Contains_int_int.f k l0 a1 = some r) :
  Calls Try.prog 33 #[.slice A0 l0.length c0, .int .i64 a1] w fun e w' => e = .returned (.bool r) ∧ Drawn0 w w' := by
 have HR0 := Aside0.mk hr0
 have HC0 := Aside0.mk hc0
 clear hr0 hc0
 have H : ((slices_Index_int_int.f k l0 a1).bind fun t124 => (some (decide (t124 ≥ 0)))) = some r := h
 clear h
 replace H := Option.bind_eq_some_iff.mp H
 obtain ⟨t124, A30, H⟩ := H
 replace H : (some (decide (t124 ≥ 0))) = some r := H
 have A3 := Aside0.mk A30
 clear A30
 obtain rfl := Option.some.inj H
 go_enter Try.func33, Try.ntmps33
 go_wp2_with (first | ((with_reducible refine gate_callee (f := 49) rfl ?_); refine gl_ (some 7) Try.func49 #[.slice A0 l0.length c0, .int .i64 a1] ?_; (with_reducible refine (slices_Index_int_int.calls k _ _ l0 a1 t124 _ ?side1 ?side2 A3.out).mono ?_); (case side1 => exact cc_ (HR0.out)); (case side2 => exact HC0.out); rintro e w' ⟨rfl, ⟨nd, rfl⟩⟩; refine ⟨_, rfl, ?_⟩))
 go_ret
 exact ⟨by first | rfl | (simp; done) | (simp [*]; done), by repeat (first | exact Drawn0.refl _ | apply Drawn0.step)⟩
end
section
open Go.Proofs.YtolmjhpapidmhaaH
theorem index_l0 (l : List Int) (x : Int) (hl : l.length ≤ 140737488355328) : ∀ (d i k : Nat), i + d = l.length → d < k → ∃ r, slices_Index_int_int.l0 k l x (l.length : Int) (i : Int) = some r ∧ decide (r ≥ 0) = (l.drop i).contains x := by
 intro d
 induction d with
 | zero =>
  intro i k hi hk
  obtain ⟨k, rfl⟩ : ∃ m, k = m + 1 := ⟨k - 1, by omega⟩
  refine ⟨-1, ?_, ?_⟩
  ·simp only [slices_Index_int_int.l0]
   rw [if_neg (by omega)]
  ·rw [List.drop_of_length_le (by omega)]
   rfl
 | succ d ih =>
  intro i k hi hk
  obtain ⟨k, rfl⟩ : ∃ m, k = m + 1 := ⟨k - 1, by omega⟩
  have hlt : i < l.length := by omega
  simp only [slices_Index_int_int.l0]
  rw [if_pos (by omega), if_pos (by omega), if_pos (by omega), rd_drop l i hlt]
  by_cases e : x = rd l (i : Int)
  ·rw [if_pos e]
   exact ⟨_, rfl, by rw [decide_eq_true (by omega : (i : Int) ≥ 0), List.contains_cons, e]; simp⟩
  ·rw [if_neg e, show wrap64 ((i : Int) + 1) = ((i + 1 : Nat) : Int) by unfold wrap64; omega]
   obtain ⟨r, h1, h2⟩ := ih (i + 1) k (by omega) (by omega)
   exact ⟨r, h1, by rw [h2, List.contains_cons, beq_eq_false_iff_ne.2 e, Bool.false_or]⟩
theorem contains_f (l : List Int) (x : Int) (hl : l.length ≤ 140737488355328) : slices_Contains_int_int.f (l.length + 1) l x = some (l.contains x) := by
 obtain ⟨r, h1, h2⟩ := index_l0 l x hl l.length 0 (l.length + 1) (by omega) (by omega)
 unfold slices_Contains_int_int.f slices_Index_int_int.f
 have h1' : slices_Index_int_int.l0 (l.length + 1) l x (l.length : Int) 0 = some r := h1
 rw [h1']
 simp only [Option.bind_some]
 rw [h2]
 rfl
def notIn (ts : List Int) (x : Int) : Bool := !(ts.contains x)
theorem notIn_calls (x : Int) (At : Option Addr) (ct : Nat) (ts : List Int) (gq : Nat) (b : Bool) (w : World) (hq : w.heap[gq]? = some (.cells #[.slice At ts.length ct] 26 (0, 0))) (hC : Kd.C (Kd.int .i64) w At ts.length ts) (hct : ts.length ≤ ct) (hl : ts.length ≤ 140737488355328) (hb : notIn ts x = b) :
  Calls Try.prog 32 #[.int .i64 x, .pointer (some ⟨gq, 0, none⟩)] w fun e w' => e = .returned (.bool b) ∧ Below w.heap.size w w' := by
 have hcq : w.cell? ⟨gq, 0, none⟩ = some (.slice At ts.length ct) := (blk_cell hq 0).trans rfl
 have hf := contains_f ts x hl
 have HC := Aside0.mk hC
 have HCT := Aside0.mk hct
 have hb' : (!(ts.contains x)) = b := hb
 generalize ts.contains x = cb at hf hb'
 have HF := Aside0.mk hf
 have HBB := Aside0.mk hb'
 clear hq hC hct hb hl hb' hf
 go_enter Try.func32, Try.ntmps32
 go_wp2_with (first | (go_at_call 33; (with_reducible refine (slices_Contains_int_int.calls (ts.length + 1) At ct ts x _ _ HC.out HCT.out HF.out).mono ?_); rintro e w1 ⟨rfl, hd_⟩; have HB := Aside0.mk hd_.below; clear hd_ hcq))
 go_ret
 exact ⟨by rw [← HBB.out]; rfl, HB.out⟩
def idxBI (p : Int → Bool) (l : List Int) : Int := match l.findIdx? p with | some i => i | none => -1
theorem idxBI_some (p : Int → Bool) (l : List Int) (i : Int) (h0 : 0 ≤ i) (h1 : i < l.length) (hp : p (rd l i) = true) (hb : ∀ j : Nat, j < i.toNat → p (rd l j) = false) : idxBI p l = i := by
 have h' : i.toNat < l.length := by omega
 have hf : l.findIdx? p = some i.toNat := by
  rw [List.findIdx?_eq_some_iff_getElem]
  refine ⟨h', ?_, fun j hj => ?_⟩
  ·have := hp
   simpa [rd, List.getD_eq_getElem?_getD, h'] using this
  ·have := hb j hj
   have hj' : j < l.length := by omega
   simpa [rd, List.getD_eq_getElem?_getD, hj'] using this
 unfold idxBI
 rw [hf]
 show ((i.toNat : Nat) : Int) = i
 omega
theorem idxBI_none (p : Int → Bool) (l : List Int) (hb : ∀ j : Nat, j < l.length → p (rd l j) = false) : idxBI p l = -1 := by
 have hf : l.findIdx? p = none := by
  rw [List.findIdx?_eq_none_iff]
  intro x hx
  obtain ⟨j, hj, rfl⟩ := List.mem_iff_getElem.1 hx
  have := hb j hj
  simpa [rd, List.getD_eq_getElem?_getD, hj] using this
 unfold idxBI
 rw [hf]
theorem notin_index (A0 : Option Addr) (c0 : Nat) (l0 : List (Int)) (w : World) (hr0 : Kd.C (Kd.int .i64) w A0 l0.length l0) (hc0 : l0.length ≤ c0) (hn : l0.length ≤ 140737488355328) (gq : Nat) (At : Option Addr) (ct : Nat) (ts : List Int) (hq : w.heap[gq]? = some (.cells #[.slice At ts.length ct] 26 (0, 0))) (hT : Kd.C (Kd.int .i64) w At ts.length ts) (hct : ts.length ≤ ct) (htl : ts.length ≤ 140737488355328) :
 Calls Try.prog 48 #[.slice A0 l0.length c0, .func (.func 32) #[] #[.pointer (some ⟨gq, 0, none⟩)]] w fun e w' => e = .returned (.int .i64 (idxBI (notIn ts) l0)) ∧ Below w.heap.size w w' := by
 have HR0 := Aside0.mk hr0
 have HC0 := Aside0.mk hc0
 have HN := Aside0.mk hn
 clear hr0 hc0 hn
 have HQ := Aside0.mk hq
 have HT := Aside0.mk hT
 have HCT := Aside0.mk hct
 have HTL := Aside0.mk htl
 clear hq hT hct htl
 have HB := Aside0.mk (Below.refl w.heap.size w)
 go_enter Try.func48, Try.ntmps48
 go_wp2
 go_loopg [8] l0.length (fun kq v8 w' => ∃ (i : Int), v8 = .int .i64 i ∧ Aside0 (∀ j : Nat, j < i.toNat → (notIn ts) (rd l0 j) = false) ∧ Aside0 (0 ≤ i ∧ kq + i.toNat = l0.length) ∧ Aside0 (Below w.heap.size w w'))
 case atStart => exact ⟨0, rfl, ⟨fun j hj => by simp at hj⟩, ⟨by simp⟩, HB⟩
 case round =>
  obtain ⟨i, rfl, HS, HK, HB⟩ := hrel
  by_cases hlt : i < l0.length
  ·have c1 : decide ((i:Int) < (l0.length : Int)) = true := decide_eq_true hlt
   have c2 : (0 ≤ i) = True := eq_true HK.out.1
   have c3 : (i < l0.length) = True := eq_true hlt
   obtain ⟨ad, e, hx0⟩ := Kd.at_int HR0.out i HK.out.1 hlt
   cases e
   replace hx0 := (HB.out.cell (World.block_lt_of_cell? w _ hx0)).trans hx0
   have HL := Aside0.mk hlt
   clear hlt
   have hw1 : i + 1 ≤ 9223372036854775807 := by have := HN.out; have := HL.out; omega
   have hw2 : 0 ≤ i + 1 := by have := HK.out; omega
   cases hp : (notIn ts) (rd l0 i) with
   | true =>
    have HP := Aside0.mk hp
    clear hp
    go_wp2_with (first | ((with_reducible refine (notIn_calls (rd l0 i) At ct ts gq _ _ (blk_below HQ.out HB.out) (Kd.C_below HT.out HB.out) HCT.out HTL.out HP.out).mono ?_); rintro e w1 ⟨rfl, hb⟩; have HB1 := Aside0.mk hb; clear hb))
    go_ret
    refine ⟨?_, HB.out.trans (HB1.out.mono HB.out.size)⟩
    rw [idxBI_some _ _ i HK.out.1 HL.out HP.out HS.out]
    first | rfl | (simp; done)
   | false =>
    have HP := Aside0.mk hp
    clear hp
    go_wp2_with (first | ((with_reducible refine (notIn_calls (rd l0 i) At ct ts gq _ _ (blk_below HQ.out HB.out) (Kd.C_below HT.out HB.out) HCT.out HTL.out HP.out).mono ?_); rintro e w1 ⟨rfl, hb⟩; have HB1 := Aside0.mk hb; clear hb))
    go_roundg (gk - 1)
    case measure => have := HK.out; have := HL.out; omega
    case rel =>
     refine ⟨i + 1, ?_, ⟨fun j hj => ?_⟩, ⟨by have := HK.out; have := HL.out; omega⟩, ⟨HB.out.trans (HB1.out.mono HB.out.size)⟩⟩
     ·first | rfl | (simp; done)
     ·by_cases hji : j < i.toNat
      ·exact HS.out j hji
      ·have : (j : Int) = i := by have := HK.out; omega
       rw [this]
       exact HP.out
  ·have c1 : decide ((i:Int) < (l0.length : Int)) = false := decide_eq_false hlt
   have HL := Aside0.mk hlt
   clear hlt
   go_wp2
   go_ret
   refine ⟨?_, HB.out⟩
   rw [idxBI_none _ _ (fun j hj => HS.out j (by have := HK.out; have := HL.out; omega))]
   first | rfl | (simp; done)
section
variable {g cap n e base : Nat} {ok : Nat → Prop}
theorem R_zeros : ∀ (d o : Nat) (W : World) (xs : List Int), o + d = xs.length → (Kd.int .i64).R e W base ok (.slice (some ⟨g, 0, none⟩) n cap) xs →
  (Kd.int .i64).R e (W.setCells g o (List.replicate d (.int .i64 0))) base ok (.slice (some ⟨g, 0, none⟩) n cap) (xs.take o ++ List.replicate d 0) ∧ W.grownBy (W.setCells g o (List.replicate d (.int .i64 0))) (some g)
 | 0, o, W, xs, hl, h => by
  have e1 : xs.take o ++ List.replicate 0 (0 : Int) = xs := by rw [List.take_of_length_le (by omega)]; simp
  rw [e1]
  exact ⟨h, World.grownBy.refl W _⟩
 | d + 1, o, W, xs, hl, h => by
  have h1 := Kd.R_putg (enc := Value.int .i64) h (o : Int) (0 : Int)
  rw [Int.toNat_natCast] at h1
  have h2 := R_zeros d (o + 1) (W.setCell ⟨g, o, none⟩ (.int .i64 0)) (xs.set o 0) (by rw [List.length_set]; omega) h1.1
  have e1 : (xs.set o 0).take (o + 1) ++ List.replicate d (0 : Int) = xs.take o ++ List.replicate (d + 1) 0 := by
   rw [List.replicate_succ, List.take_succ_eq_append_getElem (by rw [List.length_set]; omega), List.getElem_set_self, List.take_set_of_le (Nat.le_refl _), List.append_assoc]
   rfl
  rw [e1] at h2
  refine ⟨h2.1, grown_trans h1.2 h2.2⟩
end
theorem find_none {p : Int → Bool} {l : List Int} (h : idxBI p l = -1) : l.filter (fun x => !(p x)) = l := by
 unfold idxBI at h
 cases hf : l.findIdx? p with
 | some i => rw [hf] at h; simp only at h; omega
 | none =>
  rw [List.findIdx?_eq_none_iff] at hf
  exact List.filter_eq_self.2 (fun x hx => by rw [hf x hx]; rfl)
theorem find_some {p : Int → Bool} {l : List Int} {i : Int} (h : idxBI p l = i) (hi : i ≠ -1) : 0 ≤ i ∧ i < l.length ∧ l.take i.toNat = (l.take (i.toNat + 1)).filter (fun x => !(p x)) := by
 unfold idxBI at h
 cases hf : l.findIdx? p with
 | none => rw [hf] at h; exact absurd h.symm hi
 | some j =>
  rw [hf] at h
  simp only at h
  obtain ⟨h1, h2, h3⟩ := List.findIdx?_eq_some_iff_getElem.1 hf
  subst h
  refine ⟨by omega, by omega, ?_⟩
  rw [Int.toNat_natCast, List.take_succ_eq_append_getElem h1, List.filter_append, List.filter_cons_of_neg (by rw [h2]; decide), List.filter_nil, List.append_nil]
  refine (List.filter_eq_self.2 fun x hx => ?_).symm
  obtain ⟨k, hk, rfl⟩ := List.mem_iff_getElem.1 hx
  rw [List.length_take] at hk
  rw [List.getElem_take]
  have := h3 k (by omega)
  simpa using this
theorem notin_filter (ts : List Int) : (fun x => !(notIn ts x)) = (fun x => ts.contains x) := by
 funext x
 unfold notIn
 rw [Bool.not_not]
theorem rd_at (xs : List Int) (j : Nat) (h : j < xs.length) : rd xs (j : Int) = xs[j] := by simp [rd, List.getD_eq_getElem?_getD, h]
theorem del_keep {xs ys : List Int} {i j : Int} {keep : Int → Bool} (h0 : 0 ≤ i) (hij : i < j) (hj : j < xs.length) (hl : ys.length = xs.length) (ht : ys.take i.toNat = (xs.take j.toNat).filter keep) (hd : ys.drop j.toNat = xs.drop j.toNat) (hk : keep (rd xs j) = true) :
  (ys.set i.toNat (rd xs j)).length = xs.length ∧ (ys.set i.toNat (rd xs j)).take (i + 1).toNat = (xs.take (j + 1).toNat).filter keep ∧ (ys.set i.toNat (rd xs j)).drop (j + 1).toNat = xs.drop (j + 1).toNat := by
 obtain ⟨i, rfl⟩ : ∃ n : Nat, i = (n : Int) := ⟨i.toNat, by omega⟩
 obtain ⟨j, rfl⟩ : ∃ n : Nat, j = (n : Int) := ⟨j.toNat, by omega⟩
 have hj' : j < xs.length := by omega
 rw [show ((i : Int) + 1).toNat = i + 1 by omega, show ((j : Int) + 1).toNat = j + 1 by omega]
 simp only [Int.toNat_natCast] at ht hd ⊢
 refine ⟨by rw [List.length_set, hl], ?_, ?_⟩
 ·rw [List.take_succ_eq_append_getElem (by rw [List.length_set]; omega), List.getElem_set_self, List.take_set_of_le (Nat.le_refl _), ht, List.take_succ_eq_append_getElem hj', List.filter_append, ← rd_at xs j hj', List.filter_cons_of_pos hk, List.filter_nil]
 ·rw [List.drop_set_of_lt (by omega)]
  have h1 : (ys.drop j).drop 1 = (xs.drop j).drop 1 := by rw [hd]
  rwa [List.drop_drop, List.drop_drop] at h1
theorem del_drop {xs ys : List Int} {i j : Int} {keep : Int → Bool} (h0 : 0 ≤ i) (hij : i < j) (hj : j < xs.length) (hl : ys.length = xs.length) (ht : ys.take i.toNat = (xs.take j.toNat).filter keep) (hd : ys.drop j.toNat = xs.drop j.toNat) (hk : keep (rd xs j) = false) :
  ys.length = xs.length ∧ ys.take i.toNat = (xs.take (j + 1).toNat).filter keep ∧ ys.drop (j + 1).toNat = xs.drop (j + 1).toNat := by
 obtain ⟨j, rfl⟩ : ∃ n : Nat, j = (n : Int) := ⟨j.toNat, by omega⟩
 have hj' : j < xs.length := by omega
 rw [show ((j : Int) + 1).toNat = j + 1 by omega]
 simp only [Int.toNat_natCast] at ht hd ⊢
 refine ⟨hl, ?_, ?_⟩
 ·rw [List.take_succ_eq_append_getElem hj', List.filter_append, ← rd_at xs j hj', List.filter_cons_of_neg (by rw [hk]; decide), List.filter_nil, List.append_nil, ht]
 ·have h1 : (ys.drop j).drop 1 = (xs.drop j).drop 1 := by rw [hd]
  rwa [List.drop_drop, List.drop_drop] at h1
theorem delete_calls (base : Nat) (A : Option Addr) (c : Nat) (xs : List Int) (gq : Nat) (At : Option Addr) (ct : Nat) (ts : List Int) (w : World) (hbase : base ≤ w.heap.size)
  (hr : Kd.R (Kd.int .i64) 3 w base (fun _ => True) (.slice A xs.length c) xs) (hn : xs.length ≤ 1000) (hq : w.heap[gq]? = some (.cells #[.slice At ts.length ct] 26 (0, 0)))
  (hT : Kd.R (Kd.int .i64) 3 w 0 (fun k => some k ≠ (Value.slice A xs.length c).ownBlock) (.slice At ts.length ct) ts) (htl : ts.length ≤ 1000) :
  Calls Try.prog 31 #[.slice A xs.length c, .func (.func 32) #[] #[.pointer (some ⟨gq, 0, none⟩)]] w fun e w' => ∃ m, m = (xs.filter (fun x => ts.contains x)).length ∧ e = .returned (.slice A m c) ∧ Kd.R (Kd.int .i64) 3 w' base (fun _ => True) (.slice A m c) (xs.filter (fun x => ts.contains x)) ∧ Below base w w' := by
 have HR := Aside0.mk hr
 have HN := Aside0.mk hn
 have HQ := Aside0.mk hq
 have HT := Aside0.mk hT
 have HTL := Aside0.mk htl
 have HBS := Aside0.mk hbase
 have HTR := Aside0.mk (Kd.R_reads' hT)
 have HRR := Aside0.mk (Kd.R_reads' hr)
 clear hr hn hq hT htl hbase
 obtain ⟨I, hI⟩ : ∃ I, idxBI (notIn ts) xs = I := ⟨_, rfl⟩
 have HI := Aside0.mk hI
 clear hI
 by_cases hi : I = -1
 ·have d1 : (I == -1) = true := beq_iff_eq.2 hi
  have HF := Aside0.mk (find_none (HI.out.trans hi))
  clear hi
  go_enter Try.func31, Try.ntmps31
  go_wp2_with (first | (go_at_call 48; (with_reducible refine (notin_index _ c xs _ HRR.out.2.2 HRR.out.2.1 (by have := HN.out; omega) gq At ct ts HQ.out HTR.out.2.2 HTR.out.2.1 (by have := HTL.out; omega)).mono ?_); rw [HI.out]; rintro e w1 ⟨rfl, hb_⟩; have HB0 := Aside0.mk hb_; have HB1 := Aside0.mk (hb_.mono HBS.out); clear hb_))
  go_ret
  rw [notin_filter] at HF
  refine ⟨xs.length, by rw [HF.out], rfl, ?_, HB1.out⟩
  rw [HF.out]
  exact Kd.R_below HR.out HB0.out
 have d1 : (I == -1) = false := beq_eq_false_iff_ne.2 hi
 have hfs := find_some HI.out hi
 rw [notin_filter] at hfs
 obtain ⟨hi0, hi1, hi2⟩ := hfs
 obtain ⟨g, cap, eg, gb0, gl0, gcl, hgcl⟩ := Kd.R_form HR.out (by omega)
 injection eg with e1 e2 e3
 subst e1
 subst e3
 have HI2 := Aside0.mk (show 0 ≤ I ∧ I < xs.length from ⟨hi0, hi1⟩)
 have HI3 := Aside0.mk hi2
 have GB := Aside0.mk gb0
 have GL := Aside0.mk hgcl
 have hz1 : I + 1 ≤ 9223372036854775807 := by have := HN.out; omega
 have hz2 : -9223372036854775808 ≤ I + 1 := by omega
 clear e2 gb0 gl0 hgcl hi hi0 hi1 hi2
 go_enter Try.func31, Try.ntmps31
 go_wp2_with (first | (go_at_call 48; (with_reducible refine (notin_index _ c xs _ HRR.out.2.2 HRR.out.2.1 (by have := HN.out; omega) gq At ct ts HQ.out HTR.out.2.2 HTR.out.2.1 (by have := HTL.out; omega)).mono ?_); rw [HI.out]; rintro e w1 ⟨rfl, hb_⟩; have HB0 := Aside0.mk hb_; have HB1 := Aside0.mk (hb_.mono HBS.out); clear hb_))
 go_loopg [5, 6] (xs.length - (I + 1).toNat) (fun kq v5 v6 wr => ∃ (i j : Int) (ys : List Int), v5 = .int .i64 i ∧ v6 = .int .i64 j ∧ Aside0 (0 ≤ i ∧ i < j ∧ kq + j.toNat = xs.length) ∧ Aside0 (ys.length = xs.length ∧ ys.take i.toNat = (xs.take j.toNat).filter (fun x => ts.contains x) ∧ ys.drop j.toNat = xs.drop j.toNat) ∧
  Aside0 (Kd.R (Kd.int .i64) 3 wr base (fun _ => True) (.slice (some ⟨g, 0, none⟩) xs.length c) ys) ∧ Aside0 (w.grownBy wr (some g)))
 case atStart =>
  refine ⟨I, I + 1, xs, ?_, ?_, ⟨by have := HI2.out; omega⟩, ⟨rfl, ?_, rfl⟩, ⟨Kd.R_below HR.out HB0.out⟩, ⟨grown_of_below HB0.out _⟩⟩
  ·first | rfl | (simp; done)
  ·first | rfl | (simp; done)
  ·rw [show (I + 1).toNat = I.toNat + 1 by have := HI2.out; omega]
   exact HI3.out
 case round =>
  clear HB0 HB1
  obtain ⟨i, j, ys, rfl, rfl, HM, HY, HS, HG⟩ := hrel
  have hqr := blk_grown HQ.out HG.out (fun e => by
   injection e with e
   have h1 := HQ.out
   rw [e, GL.out] at h1
   injection h1 with h1
   injection h1 with _ h2
   exact absurd h2 (by decide))
  have HQR := Aside0.mk hqr
  have HTR2 := Aside0.mk (Kd.R_grown HT.out HG.out (fun k hk => hk))
  have hBr : Below base w wr := ⟨HG.out.os, HG.out.tape, HG.out.output, HG.out.size, fun k hk => HG.out.block k (Nat.lt_of_lt_of_le hk HBS.out) (fun e => by injection e with e; have := GB.out; omega)⟩
  have HBR := Aside0.mk hBr
  clear hqr hBr
  by_cases hlt : j < xs.length
  ·have d2 : decide (j < (xs.length : Int)) = true := decide_eq_true hlt
   have HJ := Aside0.mk (show 0 ≤ j ∧ j < xs.length from ⟨by have := HM.out; omega, hlt⟩)
   have cj2 : (0 ≤ j) = True := eq_true HJ.out.1
   have cj3 : (j < xs.length) = True := eq_true HJ.out.2
   have ci2 : (0 ≤ i) = True := eq_true HM.out.1
   have ci3 : (i < xs.length) = True := eq_true (by have := HM.out; omega)
   have hz3 : j + 1 ≤ 9223372036854775807 := by have := HN.out; omega
   have hz4 : -9223372036854775808 ≤ j + 1 := by have := HJ.out; omega
   have hz5 : i + 1 ≤ 9223372036854775807 := by have := HN.out; have := HM.out; omega
   have hz6 : -9223372036854775808 ≤ i + 1 := by have := HM.out; omega
   obtain ⟨adj, eaj, hxj⟩ := Kd.at_int (Kd.R_reads' HS.out).2.2 j HJ.out.1 (by rw [HY.out.1]; exact HJ.out.2)
   injection eaj with eaj
   subst eaj
   rw [add_plain] at hxj
   have hrd : rd ys j = rd xs j := by
    have h1 := HY.out.2.2
    have e1 := rd_drop ys j.toNat (by have := HY.out.1; have := HJ.out; omega)
    have e2 := rd_drop xs j.toNat (by have := HJ.out; omega)
    rw [e1, e2] at h1
    rw [show ((j.toNat : Nat) : Int) = j by have := HJ.out; omega] at h1
    exact (List.cons.inj h1).1
   rw [hrd] at hxj
   obtain ⟨x, hx⟩ : ∃ x, x = rd xs j := ⟨_, rfl⟩
   rw [← hx] at hxj
   have HX := Aside0.mk hx
   clear hx hrd hlt
   cases hb : notIn ts x with
   | false =>
    have HBB := Aside0.mk hb
    have hkp : ts.contains (rd xs j) = true := by rw [← HX.out]; unfold notIn at hb; simpa using hb
    have HKP := Aside0.mk (del_keep HM.out.1 HM.out.2.1 HJ.out.2 HY.out.1 HY.out.2.1 HY.out.2.2 hkp)
    rw [← HX.out] at HKP
    clear hb hkp
    go_wp2_with (first | ((with_reducible refine (notIn_calls x At ct ts gq _ _ HQR.out (Kd.R_reads' HTR2.out).2.2 (Kd.R_reads' HTR2.out).2.1 (by have := HTL.out; omega) HBB.out).mono ?_); rintro e w2 ⟨rfl, hb_⟩; have HS2 := Aside0.mk (Kd.R_below HS.out hb_); have HG2 := Aside0.mk (grown_trans HG.out (grown_of_below hb_ (some g))); have hS' : Kd.R (Kd.int .i64) 3 w2 base (fun _ => True) (.slice (some ⟨g, 0, none⟩) ys.length c) ys := (by rw [HY.out.1]; exact HS2.out); have hci := (Kd.R_cell (0 : Int) hS' i HM.out.1 (by have h1_ := HY.out.1; have h2_ := HM.out; have h3_ := HJ.out; omega)).1; have hfi := (Kd.R_cell (0 : Int) hS' i HM.out.1 (by have h1_ := HY.out.1; have h2_ := HM.out; have h3_ := HJ.out; omega)).2; clear hb_ hS' hxj))
    have hP := Kd.R_putg (enc := Value.int .i64) HS2.out i x
    go_roundg (gk - 1)
    case measure => have := HM.out; have := HJ.out; omega
    case rel =>
     refine ⟨i + 1, j + 1, ys.set i.toNat x, ?_, ?_, ⟨by have := HM.out; have := HJ.out; omega⟩, ⟨HKP.out⟩, ⟨hP.1⟩, ⟨grown_trans HG2.out hP.2⟩⟩
     ·first | rfl | (simp; done)
     ·first | rfl | (simp; done)
   | true =>
    have HBB := Aside0.mk hb
    have hkp : ts.contains (rd xs j) = false := by rw [← HX.out]; unfold notIn at hb; simpa using hb
    have HKP := Aside0.mk (del_drop HM.out.1 HM.out.2.1 HJ.out.2 HY.out.1 HY.out.2.1 HY.out.2.2 hkp)
    clear hb hkp
    go_wp2_with (first | ((with_reducible refine (notIn_calls x At ct ts gq _ _ HQR.out (Kd.R_reads' HTR2.out).2.2 (Kd.R_reads' HTR2.out).2.1 (by have := HTL.out; omega) HBB.out).mono ?_); rintro e w2 ⟨rfl, hb_⟩; have HS2 := Aside0.mk (Kd.R_below HS.out hb_); have HG2 := Aside0.mk (grown_trans HG.out (grown_of_below hb_ (some g))); have hS' : Kd.R (Kd.int .i64) 3 w2 base (fun _ => True) (.slice (some ⟨g, 0, none⟩) ys.length c) ys := (by rw [HY.out.1]; exact HS2.out); have hci := (Kd.R_cell (0 : Int) hS' i HM.out.1 (by have h1_ := HY.out.1; have h2_ := HM.out; have h3_ := HJ.out; omega)).1; have hfi := (Kd.R_cell (0 : Int) hS' i HM.out.1 (by have h1_ := HY.out.1; have h2_ := HM.out; have h3_ := HJ.out; omega)).2; clear hb_ hS' hxj))
    go_roundg (gk - 1)
    case measure => have := HM.out; have := HJ.out; omega
    case rel =>
     refine ⟨i, j + 1, ys, ?_, ?_, ⟨by have := HM.out; have := HJ.out; omega⟩, ⟨HKP.out⟩, HS2, HG2⟩
     ·first | rfl | (simp; done)
     ·first | rfl | (simp; done)
  ·have d2 : decide (j < (xs.length : Int)) = false := decide_eq_false hlt
   have HJN := Aside0.mk (show j.toNat = xs.length by have := HM.out; omega)
   have HIN := Aside0.mk (show i.toNat < xs.length ∧ i ≤ xs.length by have := HM.out; omega)
   obtain ⟨i0, hi0, _, hsz, _⟩ := info_parts info3
   have hcutA : ∀ W : World, (Instr.slice 26 (.slice (some ⟨g, 0, none⟩) xs.length c) (some (.int .i64 i)) none none).run Try.prog W = .ok (.slice (some ⟨g, i.toNat, none⟩) (xs.length - i.toNat) (c - i.toNat)) W := fun W => by
    rw [cut_from (P := Try.prog) 26 3 .i64 Try.underlying26 hi0 1 hsz (some ⟨g, 0, none⟩) xs.length c i HM.out.1 HIN.out.2 W, if_neg (by have := HRR.out.2.1; have := HIN.out; omega), Nat.mul_one, Option.map_some, add_plain]
   have hcutB : ∀ W : World, (Instr.slice 26 (.slice (some ⟨g, 0, none⟩) xs.length c) none (some (.int .i64 i)) none).run Try.prog W = .ok (.slice (some ⟨g, 0, none⟩) i.toNat c) W :=
    cut_to (P := Try.prog) 26 3 .i64 Try.underlying26 hi0 (some ⟨g, 0, none⟩) xs.length c i HM.out.1 HIN.out.2 HRR.out.2.1
   have hZ := R_zeros (e := 3) (g := g) (n := xs.length) (cap := c) (xs.length - i.toNat) i.toNat wr ys (by have := HY.out.1; have := HIN.out; omega) HS.out
   obtain ⟨wc, hwc⟩ : ∃ wc, wc = wr.setCells g i.toNat (List.replicate (xs.length - i.toNat) (.int .i64 0)) := ⟨_, rfl⟩
   have hclr : ∀ ty, (Builtin.clear_ #[26] ty #[.slice (some ⟨g, i.toNat, none⟩) (xs.length - i.toNat) (c - i.toNat)]).run Try.prog wr = .ok (.tuple #[]) wc := fun ty => by
    rw [hwc]
    refine Lib.run_clear_slice wr _ 3 ty _ Try.underlying26 (fun w => ?_) rfl rfl g i.toNat (xs.length - i.toNat) (c - i.toNat) (by have := HIN.out; omega) (fun k hk => ?_) (fun k hk => ?_)
    ·go_simp
    ·have hS' : Kd.R (Kd.int .i64) 3 wr base (fun _ => True) (.slice (some ⟨g, 0, none⟩) ys.length c) ys := by rw [HY.out.1]; exact HS.out
     have := (Kd.R_cell (0 : Int) hS' ((i.toNat + k : Nat) : Int) (by omega) (by have := HY.out.1; omega)).1
     rw [Int.toNat_natCast] at this
     rw [this]
     rfl
    ·have hS' : Kd.R (Kd.int .i64) 3 wr base (fun _ => True) (.slice (some ⟨g, 0, none⟩) ys.length c) ys := by rw [HY.out.1]; exact HS.out
     have := (Kd.R_cell (0 : Int) hS' ((i.toNat + k : Nat) : Int) (by omega) (by have := HY.out.1; omega)).2
     rwa [Int.toNat_natCast] at this
   rw [← hwc] at hZ
   have HZ := Aside0.mk hZ
   clear hwc hZ hlt hi0 hsz
   have q1 : (i ≤ (xs.length : Int)) = True := eq_true HIN.out.2
   go_wp2
   go_ret
   have hf : ys.take i.toNat = xs.filter (fun x => ts.contains x) := by rw [HY.out.2.1, HJN.out, List.take_of_length_le (Nat.le_refl _)]
   have hR := Kd.R_take (m := i.toNat) HZ.out.1 (by rw [List.length_append, List.length_replicate, List.length_take, HY.out.1]; have := HIN.out; omega)
   rw [List.take_append_of_le_length (by rw [List.length_take, HY.out.1]; have := HIN.out; omega), List.take_take, Nat.min_self, hf] at hR
   refine ⟨i.toNat, ?_, rfl, hR, ?_⟩
   ·rw [← hf, List.length_take, HY.out.1]
    have := HIN.out
    omega
   ·exact ⟨HZ.out.2.os.trans HBR.out.os, HZ.out.2.tape.trans HBR.out.tape, HZ.out.2.output.trans HBR.out.output, Nat.le_trans HBR.out.size HZ.out.2.size, fun k hk => (HZ.out.2.block k (Nat.lt_of_lt_of_le (Nat.lt_of_lt_of_le hk HBS.out) HBR.out.size) (fun e => by injection e with e; have := GB.out; omega)).trans (HBR.out.block k hk)⟩
theorem pick_mem {l0 : List S44} {l1 : List S46} {ps : List Int} {s : Nat} {x : List Int} (h : x ∈ pick l0 l1 ps [] 0 s) : x.length = s := by
 unfold pick at h
 obtain ⟨y, hy, rfl⟩ := List.mem_map.1 (List.mem_filter.1 h).1
 rw [List.nil_append]
 exact (mem_combos.1 hy).1
theorem smallM_mem {l0 : List S44} {l1 : List S46} {ps : List Int} : ∀ (d s : Nat) (x : List Int), x ∈ smallM l0 l1 ps s d → x.length < s + d := by
 intro d
 induction d with
 | zero => intro s x h; simp [smallM] at h
 | succ d ih =>
  intro s x h
  unfold smallM at h
  split at h
  ·have := ih _ _ h; omega
  ·have := pick_mem h; omega
def sureR (l0 : List S44) (l1 : List S46) (a2 : Int) : List Int × Int :=
 if houseE l0 l1 a2 = 0 then (match smallM l0 l1 (parN l0 l0.length) 0 (a2.toNat + 1) with | [] => ([], 4) | s :: r => (r.foldl (fun o t => o.filter (fun x => t.contains x)) s, 0)) else ([], houseE l0 l1 a2)
def leak_Sure.f (l0 : List (S44)) (l1 : List (S46)) (a2 : Int) : Option (List Int × Int) := if l0.length ≤ 5864062014805 ∧ l1.length ≤ 140737488355328 then some (sureR l0 l1 a2) else none
def sureF (X : List (List Int)) (n : Nat) : List Int := ((X.drop 1).take n).foldl (fun o t => o.filter (fun x => t.contains x)) (rdK X 0)
theorem sureF_succ (X : List (List Int)) (n : Nat) (h : n + 1 < X.length) : sureF X (n + 1) = (sureF X n).filter (fun x => (rdK X ((n + 1 : Nat) : Int)).contains x) := by
 unfold sureF
 rw [List.take_succ_eq_append_getElem (by rw [List.length_drop]; omega), List.foldl_append]
 have e : (X.drop 1)[n]'(by rw [List.length_drop]; omega) = rdK X ((n + 1 : Nat) : Int) := by
  rw [List.getElem_drop]
  simp [rdK, List.getD_eq_getElem?_getD, Nat.add_comm 1 n, h]
 rw [e]
 rfl
theorem sureF_len (X : List (List Int)) (n : Nat) (h : (rdK X 0).length ≤ 1000) : (sureF X n).length ≤ 1000 := by
 unfold sureF
 generalize (X.drop 1).take n = L
 revert h
 generalize rdK X 0 = s
 induction L generalizing s with
 | nil => intro h; exact h
 | cons t r ih => intro h; exact ih _ (Nat.le_trans (List.length_filter_le _ _) h)
theorem rdK_mem (X : List (List Int)) (j : Int) (h0 : 0 ≤ j) (h1 : j < X.length) : rdK X j ∈ X := by
 have hj : j.toNat < X.length := by omega
 have e : rdK X j = X[j.toNat] := by simp [rdK, List.getD_eq_getElem?_getD, hj]
 rw [e]
 exact List.getElem_mem hj
theorem add_add_ (a : Addr) (i j : Nat) : (a.add i).add j = a.add (i + j) := by
 unfold Addr.add
 by_cases hi : i = 0 <;> by_cases hj : j = 0 <;> simp [hi, hj, Nat.add_assoc]
theorem leak_Sure.calls (A0 : Option Addr) (c0 : Nat) (l0 : List (S44)) (A1 : Option Addr) (c1 : Nat) (l1 : List (S46)) (a2 : Int) (r1 : List Int) (r2 : Int) (w : World) (hr0 : Kd.C k44 w A0 l0.length l0) (hc0 : l0.length ≤ c0) (hr1 : Kd.C k46 w A1 l1.length l1) (hc1 : l1.length ≤ c1) (h : leak_Sure.f l0 l1 a2 = some (r1, r2)) :
  Calls Try.prog 16 #[.slice A0 l0.length c0, .slice A1 l1.length c1, .int .i64 a2] w fun e w' => ∃ v0_ : Value, e = .returned (.tuple #[v0_, .int .i64 r2]) ∧ Kd.R (Kd.int .i64) 3 w' w.heap.size (fun _ => True) v0_ r1 ∧ Below w.heap.size w w' := by
 have hu44 := Try.underlying44
 unfold leak_Sure.f at h
 by_cases hs : l0.length ≤ 5864062014805 ∧ l1.length ≤ 140737488355328
 case neg => rw [if_neg hs] at h; cases h
 rw [if_pos hs] at h
 have h := Option.some.inj h
 unfold sureR at h
 have HR0 := Aside0.mk hr0
 have HC0 := Aside0.mk hc0
 have HR1 := Aside0.mk hr1
 have HC1 := Aside0.mk hc1
 have HSZ := Aside0.mk hs
 have HB := Aside0.mk (Below.refl w.heap.size w)
 clear hr0 hc0 hr1 hc1 hs
 obtain ⟨E, hE⟩ : ∃ E, E = houseE l0 l1 a2 := ⟨_, rfl⟩
 rw [← hE] at h
 by_cases he : E = 0
 case neg =>
  rw [if_neg he] at h
  obtain ⟨rfl, rfl⟩ := Prod.mk.inj h
  have d1 : (E == 0) = false := beq_eq_false_iff_ne.2 he
  have d1' : (E != 0) = true := bne_iff_ne.2 he
  have HE := Aside0.mk (And.intro hE.symm he)
  clear h hE he
  go_enter Try.func16, Try.ntmps16
  go_wp2_with (first | (go_at_call 26; (with_reducible refine (newHouse_bad A0 c0 l0 A1 c1 l1 a2 E _ (Kd.C_below HR0.out HB.out) HC0.out (Kd.C_below HR1.out HB.out) HC1.out HSZ.out HE.out.1 HE.out.2).mono ?_); rintro e w1 ⟨rfl, hb_⟩; have n0_ := Aside0.mk (below_step HB.out hb_); clear HB hb_; have HB := n0_; clear n0_))
  go_ret2
  exact ⟨_, rfl, Kd.R_nil _ _ _ _ _, HB.out⟩
 rw [if_pos he] at h
 have HE := Aside0.mk (show houseE l0 l1 a2 = 0 from hE.symm.trans he)
 clear hE he E
 obtain ⟨X, hX⟩ : ∃ X, X = smallM l0 l1 (parN l0 l0.length) 0 (a2.toNat + 1) := ⟨_, rfl⟩
 rw [← hX] at h
 have hml : ∀ x ∈ X, x.length ≤ 1000 := fun x hx => by
  rw [hX] at hx
  have := smallM_mem _ _ _ hx
  have := houseE_0 HE.out
  omega
 have HX := Aside0.mk hX
 clear hX
 cases X with
 | nil =>
  obtain ⟨rfl, rfl⟩ := Prod.mk.inj h
  clear h hml
  go_enter Try.func16, Try.ntmps16
  go_wp2_with (first | (go_at_call 26; (with_reducible refine (newHouse_ok A0 c0 l0 A1 c1 l1 a2 _ (Kd.C_below HR0.out HB.out) HC0.out (Kd.C_below HR1.out HB.out) HC1.out HSZ.out HE.out).mono ?_); rintro e w1 ⟨gh, A2, c2, A3, c3, ys, rfl, hh_, hb_⟩; have HH := Aside0.mk hh_; have n0_ := Aside0.mk hb_; clear HB hb_ hh_; have HB := n0_; clear n0_) | (go_at_call 27; (with_reducible refine (smallest_calls w w1 A0 c0 l0 A1 c1 l1 gh A2 c2 (parN l0 l0.length) A3 c3 ys a2 a2.toNat HB.out HR0.out HC0.out HR1.out HC1.out (houseE_0 HE.out).1 HSZ.out.2 (Nat.le_trans (parN_len _ _) (houseE_0 HE.out).1) (parN_mem l0 l0.length) HH.out (by have := houseE_0 HE.out; omega) (by have := houseE_0 HE.out; omega)).mono ?_); rw [← HX.out]; rintro e w2 ⟨Ao, co, rfl, ho_, hb_⟩; clear HB HH; have HB := Aside0.mk hb_; have RO := Aside0.mk ho_; skip; clear hb_ ho_))
  go_ret2
  exact ⟨_, rfl, Kd.R_nil _ _ _ _ _, HB.out⟩
 | cons s0 rest =>
  obtain ⟨rfl, rfl⟩ := Prod.mk.inj h
  clear h
  obtain ⟨X, hx⟩ : ∃ X, X = s0 :: rest := ⟨_, rfl⟩
  rw [← hx] at HX hml
  have HML := Aside0.mk hml
  have hXF : rest.foldl (fun o t => o.filter (fun x => t.contains x)) s0 = sureF X (X.length - 1) := by
   rw [hx]
   unfold sureF
   rw [List.drop_succ_cons, List.drop_zero, List.take_of_length_le (by simp)]
   rfl
  rw [hXF]
  have hxl : 0 < X.length := by rw [hx, List.length_cons]; omega
  have z1 : ((X.length : Int) == 0) = false := beq_eq_false_iff_ne.2 (by omega)
  have z2 : (X.length == 0) = false := beq_eq_false_iff_ne.2 (by omega)
  have z3 : (0 < X.length) = True := eq_true hxl
  have z4 : ((0 : Int) < (X.length : Int)) = True := eq_true (by omega)
  have HXL := Aside0.mk hxl
  clear hx hml hXF hxl
  go_enter Try.func16, Try.ntmps16
  go_wp2_with (first | (go_at_call 26; (with_reducible refine (newHouse_ok A0 c0 l0 A1 c1 l1 a2 _ (Kd.C_below HR0.out HB.out) HC0.out (Kd.C_below HR1.out HB.out) HC1.out HSZ.out HE.out).mono ?_); rintro e w1 ⟨gh, A2, c2, A3, c3, ys, rfl, hh_, hb_⟩; have HH := Aside0.mk hh_; have n0_ := Aside0.mk hb_; clear HB hb_ hh_; have HB := n0_; clear n0_) | (go_at_call 27; (with_reducible refine (smallest_calls w w1 A0 c0 l0 A1 c1 l1 gh A2 c2 (parN l0 l0.length) A3 c3 ys a2 a2.toNat HB.out HR0.out HC0.out HR1.out HC1.out (houseE_0 HE.out).1 HSZ.out.2 (Nat.le_trans (parN_len _ _) (houseE_0 HE.out).1) (parN_mem l0 l0.length) HH.out (by have := houseE_0 HE.out; omega) (by have := houseE_0 HE.out; omega)).mono ?_); rw [← HX.out]; rintro e w2 ⟨Ao, co, rfl, ho_, hb_⟩; clear HB HH; have HB := Aside0.mk hb_; have RO := Aside0.mk ho_; obtain ⟨ad, Ai, ci, ea_, hx0, hr_⟩ := sets_get ho_ 0 (Int.le_refl _) (of_eq_true z4); subst ea_; have HR3 := Aside0.mk hr_; have hx1 : w2.cell? ad = some (.slice Ai (rdK X 0).length ci) := hx0; clear hr_ hx0; clear hb_ ho_) | (go_at_call 30; (with_reducible refine (slices_Clone_ints.calls Ai ci (rdK X 0) (rdK X 0) _ (Kd.R_reads' HR3.out).2.2 (Kd.R_reads' HR3.out).2.1 (by unfold slices_Clone_ints.f; rw [if_pos (by have := HML.out _ (rdK_mem X 0 (Int.le_refl _) (by have := HXL.out; omega)); omega)])).mono ?_); rintro e w3 ⟨vq, rfl, hq_, hb_⟩; obtain ⟨Aw0, cw0, eq_⟩ := Kd.R_slice hq_; subst eq_; have RW0 := Aside0.mk hq_; have HB3 := Aside0.mk hb_; have HCO := Aside0.mk (Kd.R_reads' RO.out).2.1; have HXB := Aside0.mk (Kd.C_max (Kd.R_reads' RO.out).2.2); obtain ⟨A35, hA35⟩ : ∃ A35, A35 = (if co = 1 then some ad else some (ad.add 1)) := ⟨_, rfl⟩; obtain ⟨m1, hm1⟩ : ∃ m1, m1 = X.length - 1 := ⟨_, rfl⟩; have hcut : ∀ W : World, (Instr.slice 58 (.slice (some ad) X.length co) (some (.int .i64 1)) none none).run Try.prog W = .ok (.slice A35 m1 (co - 1)) W := (by intro W; obtain ⟨i0, hi0, _, hsz, _⟩ := info_parts info26; rw [cut_from (P := Try.prog) 58 26 .i64 Try.underlying58 hi0 1 hsz (some ad) X.length co 1 (by decide) (by have := HXL.out; omega) W, hA35, hm1]; rfl); have HA35 := Aside0.mk hA35; have HM1 := Aside0.mk hm1; have q1 : ((1 : Int) ≤ (X.length : Int)) = True := eq_true (by have := HXL.out; omega); clear hq_ hb_ hA35 hm1 hx1))
  go_loopg [37, 11] m1 (fun kq v37 v11 wr => ∃ (n : Nat) (Aw : Option Addr) (cw : Nat), v37 = .int .i64 n ∧ v11 = .slice Aw (sureF X n).length cw ∧ Aside0 (kq + n = m1) ∧ Aside0 (Kd.R (Kd.int .i64) 3 wr w2.heap.size (fun _ => True) (.slice Aw (sureF X n).length cw) (sureF X n)) ∧ Aside0 (Below w2.heap.size w2 wr))
  case atStart => exact ⟨0, Aw0, cw0, rfl, rfl, ⟨by omega⟩, RW0, HB3⟩
  case round =>
   clear RW0 HB3
   obtain ⟨n, Aw, cw, rfl, rfl, HM, HW, HB3⟩ := hrel
   have HL10 := Aside0.mk (sureF_len X n (HML.out _ (rdK_mem X 0 (Int.le_refl _) (by have := HXL.out; omega))))
   by_cases hlt : n < m1
   ·obtain ⟨i, hi⟩ : ∃ i : Int, i = (n : Int) := ⟨_, rfl⟩
    rw [← hi]
    have HI2 := Aside0.mk (show 0 ≤ i ∧ i.toNat < m1 ∧ i = (n : Int) from ⟨by omega, by omega, hi⟩)
    have d7 : decide (i < (m1 : Int)) = true := decide_eq_true (by omega)
    have ci2 : (0 ≤ i) = True := eq_true HI2.out.1
    have ci3 : (i < (m1 : Int)) = True := eq_true (by omega)
    have hz1 : i + 1 ≤ 9223372036854775807 := by have := HI2.out; have := HXB.out; have := HM1.out; omega
    have hz2 : -9223372036854775808 ≤ i + 1 := by have := HI2.out; omega
    obtain ⟨ad2, Ai, ci, ea2, hxi, hri⟩ := sets_get RO.out ((n + 1 : Nat) : Int) (by omega) (by have := HM1.out; have := HXL.out; omega)
    injection ea2 with ea2
    subst ea2
    obtain ⟨t, ht⟩ : ∃ t, t = rdK X ((n + 1 : Nat) : Int) := ⟨_, rfl⟩
    rw [← ht] at hxi hri
    have HTL := Aside0.mk (show t.length ≤ 1000 by rw [ht]; exact HML.out _ (rdK_mem X _ (by omega) (by have := HM1.out; have := HXL.out; omega)))
    have HFE := Aside0.mk (show (sureF X n).filter (fun x => t.contains x) = sureF X (n + 1) by rw [ht]; exact (sureF_succ X n (by have := HM1.out; have := HXL.out; omega)).symm)
    obtain ⟨ad1, had1⟩ : ∃ ad1, ad1 = ad.add 1 := ⟨_, rfl⟩
    have hAt : A35 = some ad1 := by rw [HA35.out, if_neg (by have := HCO.out; have := HM1.out; omega), had1]
    have hti : wr.cell? (ad1.add i.toNat) = some (.slice Ai t.length ci) := by
     have h1 := (HB3.out.cell (World.block_lt_of_cell? _ _ hxi)).trans hxi
     have e1 : ad1.add i.toNat = ad.add (n + 1) := by rw [had1, add_add_, show i.toNat = n by have := HI2.out; omega, Nat.add_comm 1 n]
     rw [e1]
     simpa using h1
    have HTR := Aside0.mk (Kd.R_below (Kd.R_lower (Kd.R_mono (Kd.R_bound hri) (ok' := fun k => k < w2.heap.size) (fun k hk => hk.2.2.1)) (Nat.zero_le _)) HB3.out)
    subst hAt
    clear had1
    have HB4 := Aside0.mk (Below.refl wr.heap.size wr)
    clear hi hlt ht hxi hri
    go_upto_region 11 with (first | ((with_reducible refine gate_dst (N := 13) rfl ?_); refine box_event ?hg (N := 13) ?hd (cs := #[.slice none 0 0]) (t := 26) ?hr ?_; (case hd => rfl); (case hg => rfl); (case hr => first | (go_simp; done) | (go_simp; rfl)); intro gq hg_Q wq hbox_ hb_; have n0_ := Aside0.mk (below_step HB4.out hb_); have BQ := Aside0.mk hbox_; have GQ := Aside0.mk (show wr.heap.size ≤ gq by rw [hg_Q]; exact below_size HB4.out); have EQ := Aside0.mk hg_Q; have hcQ0 : wq.cell? ⟨gq, 0, none⟩ = some (.slice none 0 0) := (blk_cell hbox_ 0).trans rfl; have hfQ0 := blk_frozen hbox_ 0; clear HB4 hg_Q hbox_ hb_; have HB4 := n0_; clear n0_))
    obtain ⟨w10, hw10⟩ : ∃ w10, w10 = wq.setCell ⟨gq, 0, none⟩ (.slice Ai t.length ci) := ⟨_, rfl⟩
    rw [← hw10]
    have BQ10 := Aside0.mk (show w10.heap[gq]? = some (.cells #[.slice Ai t.length ci] 26 (0, 0)) by rw [hw10]; exact blk_put BQ.out 0 _ rfl)
    have HB10 := Aside0.mk (show Below wr.heap.size wr w10 by rw [hw10]; exact below_set HB4.out GQ.out)
    clear hw10 BQ HB4 GQ EQ hcQ0 hfQ0 hti
    have HDEL := Aside0.mk (delete_calls w2.heap.size Aw cw (sureF X n) gq Ai ci t w10 (Nat.le_trans HB3.out.size HB10.out.size) (Kd.R_below HW.out HB10.out) HL10.out BQ10.out
     (Kd.R_mono (Kd.R_below HTR.out HB10.out) (fun k hk e => by have := Kd.R_base HW.out k e.symm; omega)) HTL.out)
    rw [HFE.out] at HDEL
    go_wp2_with (first | (go_at_call 31; (with_reducible refine HDEL.out.mono ?_); rintro e w11 ⟨m_, em_, rfl, hr_, hb_⟩; subst em_; have HW11 := Aside0.mk hr_; have HB11 := Aside0.mk hb_; clear hr_ hb_))
    go_roundg (gk - 1)
    case measure => have := HM.out; have := HI2.out; omega
    case rel =>
     refine ⟨n + 1, Aw, cw, ?_, rfl, ⟨by have := HM.out; have := HI2.out; omega⟩, HW11, ⟨(HB3.out.trans (HB10.out.mono HB3.out.size)).trans HB11.out⟩⟩
     have := HI2.out
     first | (rw [show ((n + 1 : Nat) : Int) = i + 1 from by omega]; done) | (simp; omega)
   ·have d7 : decide ((n : Int) < (m1 : Int)) = false := decide_eq_false (by omega)
    have d7' : decide (n < m1) = false := decide_eq_false hlt
    have HNL := Aside0.mk (show n = X.length - 1 by have := HM.out; have := HM1.out; omega)
    clear hlt
    go_wp2
    go_ret2
    rw [← HNL.out]
    exact ⟨_, rfl, Kd.R_lower HW.out HB.out.size, HB.out.trans (HB3.out.mono HB.out.size)⟩
end
end Go.Proofs.Ytolmjhpapidmhaa.P
end
