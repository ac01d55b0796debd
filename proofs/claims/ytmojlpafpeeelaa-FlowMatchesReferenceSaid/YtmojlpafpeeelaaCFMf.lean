/- Part 6 of the proof of FlowMatchesReference: words and walks that the last part joins. -/
import Derived.ArgAppend
import Derived.Below
import Derived.BigQuiet
import Derived.ChangeOld
import Derived.ChangeSlices
import Derived.Deep.AppendLies
import Derived.Deep.CutBlock
import Derived.Deep.DeepCutAuto
import Derived.Deep.Draws
import Derived.Deep.LoopGhost
import Derived.Deep.OwnRows
import Derived.Deep.QuietTactic
import Derived.Deep.RegionHeld3
import Derived.Deep.Slices
import Derived.KernelRfl
import Derived.Laws.BitsLemmas
import Derived.Laws.BytesArg
import Derived.Laws.IdiomCopy
import Derived.Laws.MakeOwn
import Derived.Laws.OwnMore
import Derived.Laws.Rows
import Derived.Laws.Slices
import Derived.Laws.StructEq
import Derived.Lib.AppendStr
import Derived.Lib.ConvBytes
import Derived.LoopIn
import Derived.LoopNIn
import Derived.Maps.AppendAt
import Derived.Maps.Own
import Derived.OpenShut
import Derived.OrdersHeld
import Derived.OwnWalk
import Derived.OwnWalkIn
import Derived.ProofKit
import Derived.RangeFuncBound
import Derived.RangeFuncCalls
import Derived.RangeFuncLeaves
import Derived.RangeFuncNested
import Derived.RowKit
import Derived.RowKit3
import Derived.ShutString
import Derived.SizedLaws
import Derived.Tactics
import Derived.TacticsInMore
import Derived.Test.YtmojlpafpeeelaaProg
import Derived.WalkKit
import Derived.WideLaws
import Derived.Test.YtmojlpafpeeelaaCFMe
set_option linter.unusedVariables false
set_option linter.unusedSimpArgs false
section
namespace Go.Proofs.Ytmojlpafpeeelaa.P
open Go.RowKit Go.Proofs.YtmojlpafpeeelaaW.PrintWords Go.Proofs.YtmojlpafpeeelaaW.PrintLast Go.Proofs.YtmojlpafpeeelaaW.PrintMore
attribute [local go_sem] max2_int min2_int max_two min_two max_three min_three max_four min_four
set_option linter.unusedVariables false
set_option linter.unusedSimpArgs false
mutual
def cohousingref28_Consistent.j0 : Nat → List (S44) → List (S39) → List Int → Bool → Option (Bool × Int)
 | 0, _, _, _, _ => none
 | k + 1, x0, x1, x2, x32 => if x32 = true then (some (false, 1)) else (cohousingref28_Consistent.l0 k x0 x1 x2 0)
def cohousingref28_Consistent.l0 : Nat → List (S44) → List (S39) → List Int → Int → Option (Bool × Int)
 | 0, _, _, _, _ => none
 | k + 1, x0, x1, x2, x10 => if x10 < (x0.length : Int) then (if 0 ≤ x10 then (if x10 < (x2.length : Int) then (if x10 < (x1.length : Int) then (if (rd x2 x10) < ((rd_T39 x1 x10).f0) then (some (false, 0)) else (if (rd x2 x10) > ((rd_T39 x1 x10).f1) then (some (false, 0)) else (cohousingref28_Consistent.l0 k x0 x1 x2 (wrap64 (x10 + 1))))) else (none)) else (none)) else (none)) else (cohousingref28_Consistent.l1 k x0 x2 0)
def cohousingref28_Consistent.l1 : Nat → List (S44) → List Int → Int → Option (Bool × Int)
 | 0, _, _, _ => none
 | k + 1, x0, x2, x11 => if x11 < (x0.length : Int) then ((cohousingref28_below.f k x0 x11).bind fun t274 => (if 0 ≤ x11 then (if x11 < (x2.length : Int) then (cohousingref28_Consistent.l2 k x0 x2 x11 t274 (rd x2 x11) 0) else (none)) else (none))) else (some (true, 0))
def cohousingref28_Consistent.l2 : Nat → List (S44) → List Int → Int → List Int → Int → Int → Option (Bool × Int)
 | 0, _, _, _, _, _, _ => none
 | k + 1, x0, x2, x11, x12, x13, x14 => if x14 < (x12.length : Int) then (if 0 ≤ x14 then (if 0 ≤ (rd x12 x14) then (if (rd x12 x14) < (x2.length : Int) then (cohousingref28_Consistent.l2 k x0 x2 x11 x12 (wrap64 (x13 - (rd x2 (rd x12 x14)))) (wrap64 (x14 + 1))) else (none)) else (none)) else (none)) else (if (x12.length : Int) > 0 then (if x13 < 0 then (some (false, 0)) else (if 0 ≤ x11 then (if x11 < (x0.length : Int) then (if x13 > ((rd_T44 x0 x11).f2) then (some (false, 0)) else (cohousingref28_Consistent.l1 k x0 x2 (wrap64 (x11 + 1)))) else (none)) else (none))) else (cohousingref28_Consistent.l1 k x0 x2 (wrap64 (x11 + 1))))
end
def cohousingref28_Consistent.f (k : Nat) (l0 : List (S44)) (l1 : List (S39)) (l2 : List Int) : Option (Bool × Int) := (cohousingref28_Valid.f k l0).bind fun t268 => ((cohousingref28_Belongs.f l0 l1).bind fun t269 => (if t268 = true then (if t269 = true then (cohousingref28_Consistent.j0 k l0 l1 l2 ((l2.length : Int) != (l0.length : Int))) else (cohousingref28_Consistent.j0 k l0 l1 l2 true)) else (cohousingref28_Consistent.j0 k l0 l1 l2 true)))
set_option maxHeartbeats 8000000 in
set_option maxRecDepth 100000 in
theorem cohousingref28_Consistent.calls (k : Nat) (A0 : Option Addr) (c0 : Nat) (l0 : List (S44)) (A1 : Option Addr) (c1 : Nat) (l1 : List (S39)) (A2 : Option Addr) (c2 : Nat) (l2 : List Int) (r1 : Bool) (r2 : Int) (w : World) (hr0 : Kd.C k44 w A0 l0.length l0) (hc0 : l0.length ≤ c0) (hr1 : Kd.C k39 w A1 l1.length l1) (hc1 : l1.length ≤ c1) (hr2 : Kd.C (Kd.int .i64) w A2 l2.length l2) (hc2 : l2.length ≤ c2) (h : cohousingref28_Consistent.f k l0 l1 l2 = some (r1, r2)) :
  Calls Try.prog 17 #[.slice A0 l0.length c0, .slice A1 l1.length c1, .slice A2 l2.length c2] w fun e w' => e = .returned (.tuple #[.bool r1, .int .i64 r2]) ∧ Below w.heap.size w w' := by
 have HR0 := Aside0.mk hr0
 have HC0 := Aside0.mk hc0
 clear hr0 hc0
 have HR1 := Aside0.mk hr1
 have HC1 := Aside0.mk hc1
 clear hr1 hc1
 have HR2 := Aside0.mk hr2
 have HC2 := Aside0.mk hc2
 clear hr2 hc2
 have HB := Aside0.mk (Below.refl w.heap.size w)
 have H : ((cohousingref28_Valid.f k l0).bind fun t268 => ((cohousingref28_Belongs.f l0 l1).bind fun t269 => (if t268 = true then (if t269 = true then (cohousingref28_Consistent.j0 k l0 l1 l2 ((l2.length : Int) != (l0.length : Int))) else (cohousingref28_Consistent.j0 k l0 l1 l2 true)) else (cohousingref28_Consistent.j0 k l0 l1 l2 true)))) = some (r1, r2) := h
 clear h
 replace H := Option.bind_eq_some_iff.mp H
 obtain ⟨t268, A40, H⟩ := H
 replace H : ((cohousingref28_Belongs.f l0 l1).bind fun t269 => (if t268 = true then (if t269 = true then (cohousingref28_Consistent.j0 k l0 l1 l2 ((l2.length : Int) != (l0.length : Int))) else (cohousingref28_Consistent.j0 k l0 l1 l2 true)) else (cohousingref28_Consistent.j0 k l0 l1 l2 true))) = some (r1, r2) := H
 have A4 := Aside0.mk A40
 clear A40
 replace H := Option.bind_eq_some_iff.mp H
 obtain ⟨t269, A50, H⟩ := H
 replace H : (if t268 = true then (if t269 = true then (cohousingref28_Consistent.j0 k l0 l1 l2 ((l2.length : Int) != (l0.length : Int))) else (cohousingref28_Consistent.j0 k l0 l1 l2 true)) else (cohousingref28_Consistent.j0 k l0 l1 l2 true)) = some (r1, r2) := H
 have A5 := Aside0.mk A50
 clear A50
 have HC6 := Aside0.mk H
 clear H
 go_enter Try.func17, Try.ntmps17
 go_upto_region 3 with (first | (go_at_call 14; (with_reducible refine (cohousingref28_Valid.calls k _ _ l0 t268 _ ?side1 ?side2 A4.out).mono ?_); (case side1 => repeat (first | exact HR0.out | (with_reducible refine Kd.C_alloc ?_ _) | (with_reducible refine Kd.C_drewN ?_ _) | (with_reducible refine Kd.C_drew ?_))); (case side2 => exact HC0.out); rintro e w7 ⟨rfl, hb⟩; have n0_ := Aside0.mk (below_step (by repeat (first | (with_reducible first | exact HB.out | apply below_alloc | apply pw_below_drewN | apply below_drew1) | exact HB.out)) hb); clear HB; have HB := n0_; clear n0_; (try clear hb); (try clear hb2); (try clear hk); (try clear hi)) | (go_at_call 29; (with_reducible refine (cohousingref28_Belongs.calls _ _ l0 _ _ l1 t269 _ ?side1 ?side2 ?side3 ?side4 A5.out).mono ?_); (case side1 => repeat (first | exact (Kd.C_below HR0.out HB.out) | (with_reducible refine Kd.C_alloc ?_ _) | (with_reducible refine Kd.C_drewN ?_ _) | (with_reducible refine Kd.C_drew ?_))); (case side2 => exact HC0.out); (case side3 => repeat (first | exact (Kd.C_below HR1.out HB.out) | (with_reducible refine Kd.C_alloc ?_ _) | (with_reducible refine Kd.C_drewN ?_ _) | (with_reducible refine Kd.C_drew ?_))); (case side4 => exact HC1.out); rintro e w8 ⟨rfl, hb⟩; have n0_ := Aside0.mk (below_step (by repeat (first | (with_reducible first | exact HB.out | apply below_alloc | apply pw_below_drewN | apply below_drew1) | exact HB.out)) hb); clear HB; have HB := n0_; clear n0_; (try clear hb); (try clear hb2); (try clear hk); (try clear hi)))
 repeat (go_quiet (first | (go_at_call 14; (with_reducible refine (cohousingref28_Valid.calls k _ _ l0 t268 _ ?side1 ?side2 A4.out).mono ?_); (case side1 => repeat (first | exact HR0.out | (with_reducible refine Kd.C_alloc ?_ _) | (with_reducible refine Kd.C_drewN ?_ _) | (with_reducible refine Kd.C_drew ?_))); (case side2 => exact HC0.out); rintro e w7 ⟨rfl, hb⟩; have n0_ := Aside0.mk (below_step (by repeat (first | (with_reducible first | exact HB.out | apply below_alloc | apply pw_below_drewN | apply below_drew1) | exact HB.out)) hb); clear HB; have HB := n0_; clear n0_; (try clear hb); (try clear hb2); (try clear hk); (try clear hi)) | (go_at_call 29; (with_reducible refine (cohousingref28_Belongs.calls _ _ l0 _ _ l1 t269 _ ?side1 ?side2 ?side3 ?side4 A5.out).mono ?_); (case side1 => repeat (first | exact (Kd.C_below HR0.out HB.out) | (with_reducible refine Kd.C_alloc ?_ _) | (with_reducible refine Kd.C_drewN ?_ _) | (with_reducible refine Kd.C_drew ?_))); (case side2 => exact HC0.out); (case side3 => repeat (first | exact (Kd.C_below HR1.out HB.out) | (with_reducible refine Kd.C_alloc ?_ _) | (with_reducible refine Kd.C_drewN ?_ _) | (with_reducible refine Kd.C_drew ?_))); (case side4 => exact HC1.out); rintro e w8 ⟨rfl, hb⟩; have n0_ := Aside0.mk (below_step (by repeat (first | (with_reducible first | exact HB.out | apply below_alloc | apply pw_below_drewN | apply below_drew1) | exact HB.out)) hb); clear HB; have HB := n0_; clear n0_; (try clear hb); (try clear hb2); (try clear hk); (try clear hi))); go_upto_region 3 with (first | (go_at_call 14; (with_reducible refine (cohousingref28_Valid.calls k _ _ l0 t268 _ ?side1 ?side2 A4.out).mono ?_); (case side1 => repeat (first | exact HR0.out | (with_reducible refine Kd.C_alloc ?_ _) | (with_reducible refine Kd.C_drewN ?_ _) | (with_reducible refine Kd.C_drew ?_))); (case side2 => exact HC0.out); rintro e w7 ⟨rfl, hb⟩; have n0_ := Aside0.mk (below_step (by repeat (first | (with_reducible first | exact HB.out | apply below_alloc | apply pw_below_drewN | apply below_drew1) | exact HB.out)) hb); clear HB; have HB := n0_; clear n0_; (try clear hb); (try clear hb2); (try clear hk); (try clear hi)) | (go_at_call 29; (with_reducible refine (cohousingref28_Belongs.calls _ _ l0 _ _ l1 t269 _ ?side1 ?side2 ?side3 ?side4 A5.out).mono ?_); (case side1 => repeat (first | exact (Kd.C_below HR0.out HB.out) | (with_reducible refine Kd.C_alloc ?_ _) | (with_reducible refine Kd.C_drewN ?_ _) | (with_reducible refine Kd.C_drew ?_))); (case side2 => exact HC0.out); (case side3 => repeat (first | exact (Kd.C_below HR1.out HB.out) | (with_reducible refine Kd.C_alloc ?_ _) | (with_reducible refine Kd.C_drewN ?_ _) | (with_reducible refine Kd.C_drew ?_))); (case side4 => exact HC1.out); rintro e w8 ⟨rfl, hb⟩; have n0_ := Aside0.mk (below_step (by repeat (first | (with_reducible first | exact HB.out | apply below_alloc | apply pw_below_drewN | apply below_drew1) | exact HB.out)) hb); clear HB; have HB := n0_; clear n0_; (try clear hb); (try clear hb2); (try clear hk); (try clear hi))))
 (try simp only [Act.put, sI_, s0_, sS_])
 go_cut [32] (fun v32 wc => ∃ (kq : Nat) (x32_5 : Bool), v32 = .bool x32_5 ∧ Aside0 (cohousingref28_Consistent.j0 kq l0 l1 l2 x32_5 = some (r1, r2)) ∧ Aside0 (kq ≤ k) ∧ Aside0 (Below w.heap.size w wc))
 case first =>
  have H := HC6.out
  clear HC6
  by_cases c9 : t268 = true
  ·subst c9
   have H1 : (if t269 = true then (cohousingref28_Consistent.j0 k l0 l1 l2 ((l2.length : Int) != (l0.length : Int))) else (cohousingref28_Consistent.j0 k l0 l1 l2 true)) = some (r1, r2) := by rw [if_pos rfl] at H; exact H
   clear H
   have H := H1
   clear H1
   by_cases c10 : t269 = true
   ·subst c10
    have H1 : (cohousingref28_Consistent.j0 k l0 l1 l2 ((l2.length : Int) != (l0.length : Int))) = some (r1, r2) := by rw [if_pos rfl] at H; exact H
    clear H
    have H := H1
    clear H1
    have H' := Aside0.mk H
    clear H
    go_wp2
    repeat (go_quiet (fail); try go_wp2)
    go_meet
    case rel => exact ⟨_, (((l2.length : Int) != (l0.length : Int))), (by first | rfl | (simp; done) | (simp [*]; done)), H', ⟨by first | omega | exact Nat.le_refl _⟩, ⟨by repeat (first | (with_reducible first | exact HB.out | apply below_alloc | apply pw_below_drewN | apply below_drew1) | exact HB.out)⟩⟩
   ·replace c10 := Bool.eq_false_iff.mpr c10
    subst c10
    have H1 : (cohousingref28_Consistent.j0 k l0 l1 l2 true) = some (r1, r2) := by rw [if_neg (show ¬ (false = true) by decide)] at H; exact H
    clear H
    have H := H1
    clear H1
    have H' := Aside0.mk H
    clear H
    go_wp2
    repeat (go_quiet (fail); try go_wp2)
    go_meet
    case rel => exact ⟨_, (true), (by first | rfl | (simp; done) | (simp [*]; done)), H', ⟨by first | omega | exact Nat.le_refl _⟩, ⟨by repeat (first | (with_reducible first | exact HB.out | apply below_alloc | apply pw_below_drewN | apply below_drew1) | exact HB.out)⟩⟩
  ·replace c9 := Bool.eq_false_iff.mpr c9
   subst c9
   have H1 : (cohousingref28_Consistent.j0 k l0 l1 l2 true) = some (r1, r2) := by rw [if_neg (show ¬ (false = true) by decide)] at H; exact H
   clear H
   have H := H1
   clear H1
   have H' := Aside0.mk H
   clear H
   go_wp2
   repeat (go_quiet (fail); try go_wp2)
   go_meet
   case rel => exact ⟨_, (true), (by first | rfl | (simp; done) | (simp [*]; done)), H', ⟨by first | omega | exact Nat.le_refl _⟩, ⟨by repeat (first | (with_reducible first | exact HB.out | apply below_alloc | apply pw_below_drewN | apply below_drew1) | exact HB.out)⟩⟩
 case rest =>
  clear HC6
  try clear c1
  try clear c2
  try clear p2
  try clear c9
  try clear c10
  obtain ⟨kq, x32_5, rfl, HA, HJ5, HB⟩ := hcut
  cases kq with
  | zero => exact absurd HA.out (by simp [cohousingref28_Consistent.j0])
  | succ kj5 =>
   have H := HA.out
   clear HA
   simp only [cohousingref28_Consistent.j0] at H
   by_cases c11 : x32_5 = true
   ·subst c11
    have H1 : (some (false, 1)) = some (r1, r2) := by rw [if_pos rfl] at H; exact H
    clear H
    have H := H1
    clear H1
    simp only [Option.some.injEq, Prod.mk.injEq] at H
    obtain ⟨rfl, rfl⟩ := H
    go_wp2
    repeat (go_quiet (fail); try go_wp2)
    go_ret2
    exact ⟨by first | rfl | (simp [errW_none, errW_some] <;> rfl) | (simp [*, errW_none, errW_some] <;> rfl), by repeat (first | (with_reducible first | exact HB.out | apply below_alloc | apply pw_below_drewN | apply below_drew1) | exact HB.out)⟩
   ·replace c11 := Bool.eq_false_iff.mpr c11
    subst c11
    have H1 : (cohousingref28_Consistent.l0 kj5 l0 l1 l2 0) = some (r1, r2) := by rw [if_neg (show ¬ (false = true) by decide)] at H; exact H
    clear H
    have H := H1
    clear H1
    have H' := Aside0.mk H
    clear H
    go_wp2
    repeat (go_quiet (fail); try go_wp2)
    go_loopg [10] kj5 (fun kq v10 w' => ∃ (x10_2 : Int), v10 = .int .i64 x10_2 ∧ Aside0 (cohousingref28_Consistent.l0 kq l0 l1 l2 x10_2 = some (r1, r2)) ∧ Aside0 (kq ≤ kj5) ∧ Aside0 (Below w.heap.size w w'))
    case atStart => exact ⟨(0), (by first | rfl | (simp; done) | (simp [*]; done)), H', ⟨Nat.le_refl _⟩, ⟨by repeat (first | (with_reducible first | exact HB.out | apply below_alloc | apply pw_below_drewN | apply below_drew1) | exact HB.out)⟩⟩
    case round =>
     clear H'
     try clear c1
     try clear c2
     try clear p2
     try clear c9
     try clear c10
     try clear c11
     try clear p2
     obtain ⟨x10_2, rfl, HA, HK2, HB⟩ := hrel
     cases gk with
     | zero => exact absurd HA.out (by simp [cohousingref28_Consistent.l0])
     | succ k2 =>
      have H := HA.out
      clear HA
      simp only [cohousingref28_Consistent.l0] at H
      by_cases c12 : x10_2 < (l0.length : Int)
      ·rw [if_pos c12] at H
       have c12b0 : decide (x10_2 < (l0.length : Int)) = true := decide_eq_true c12
       clear c12
       by_cases c13 : 0 ≤ x10_2
       ·rw [if_pos c13] at H
        have c13b0 : decide (0 ≤ x10_2) = true := decide_eq_true c13
        clear c13
        by_cases c14 : x10_2 < (l2.length : Int)
        ·rw [if_pos c14] at H
         have c14b0 : decide (x10_2 < (l2.length : Int)) = true := decide_eq_true c14
         clear c14
         by_cases c15 : x10_2 < (l1.length : Int)
         ·rw [if_pos c15] at H
          have c15b0 : decide (x10_2 < (l1.length : Int)) = true := decide_eq_true c15
          clear c15
          by_cases c16 : (rd l2 x10_2) < ((rd_T39 l1 x10_2).f0)
          ·rw [if_pos c16] at H
           have c16b0 : decide ((rd l2 x10_2) < ((rd_T39 l1 x10_2).f0)) = true := decide_eq_true c16
           clear c16
           simp only [Option.some.injEq, Prod.mk.injEq] at H
           obtain ⟨rfl, rfl⟩ := H
           have p270 : 0 ≤ (x10_2 : Int) := of_decide_eq_true (by first | (with_reducible assumption) | assumption)
           have q270 : x10_2 < (l2.length : Int) := of_decide_eq_true (by first | (with_reducible assumption) | assumption)
           obtain ⟨ad270, e270, hx270_0⟩ := Kd.at_int HR2.out x10_2 p270 q270
           cases e270
           replace hx270_0 := (HB.out.cell (World.block_lt_of_cell? w _ hx270_0)).trans hx270_0
           replace p270 := eq_true p270
           replace q270 := eq_true q270
           have p271 : 0 ≤ (x10_2 : Int) := of_decide_eq_true (by first | (with_reducible assumption) | assumption)
           have q271 : x10_2 < (l1.length : Int) := of_decide_eq_true (by first | (with_reducible assumption) | assumption)
           obtain ⟨ad271, e271, hx271_0, hx271_1⟩ := at_T39 HR1.out x10_2 p271 q271
           cases e271
           replace hx271_0 := (HB.out.cell (World.block_lt_of_cell? w _ hx271_0)).trans hx271_0
           replace hx271_1 := (HB.out.cell (World.block_lt_of_cell? w _ hx271_1)).trans hx271_1
           replace p271 := eq_true p271
           replace q271 := eq_true q271
           go_wp2
           repeat (go_quiet (fail); try go_wp2)
           go_ret2
           exact ⟨by first | rfl | (simp [errW_none, errW_some] <;> rfl) | (simp [*, errW_none, errW_some] <;> rfl), by repeat (first | (with_reducible first | exact HB.out | apply below_alloc | apply pw_below_drewN | apply below_drew1) | exact HB.out)⟩
          ·rw [if_neg c16] at H
           have c16b0 : decide ((rd l2 x10_2) < ((rd_T39 l1 x10_2).f0)) = false := decide_eq_false c16
           clear c16
           by_cases c17 : (rd l2 x10_2) > ((rd_T39 l1 x10_2).f1)
           ·rw [if_pos c17] at H
            have c17b0 : decide (((rd_T39 l1 x10_2).f1) < (rd l2 x10_2)) = true := decide_eq_true c17
            clear c17
            simp only [Option.some.injEq, Prod.mk.injEq] at H
            obtain ⟨rfl, rfl⟩ := H
            have p270 : 0 ≤ (x10_2 : Int) := of_decide_eq_true (by first | (with_reducible assumption) | assumption)
            have q270 : x10_2 < (l2.length : Int) := of_decide_eq_true (by first | (with_reducible assumption) | assumption)
            obtain ⟨ad270, e270, hx270_0⟩ := Kd.at_int HR2.out x10_2 p270 q270
            cases e270
            replace hx270_0 := (HB.out.cell (World.block_lt_of_cell? w _ hx270_0)).trans hx270_0
            replace p270 := eq_true p270
            replace q270 := eq_true q270
            have p271 : 0 ≤ (x10_2 : Int) := of_decide_eq_true (by first | (with_reducible assumption) | assumption)
            have q271 : x10_2 < (l1.length : Int) := of_decide_eq_true (by first | (with_reducible assumption) | assumption)
            obtain ⟨ad271, e271, hx271_0, hx271_1⟩ := at_T39 HR1.out x10_2 p271 q271
            cases e271
            replace hx271_0 := (HB.out.cell (World.block_lt_of_cell? w _ hx271_0)).trans hx271_0
            replace hx271_1 := (HB.out.cell (World.block_lt_of_cell? w _ hx271_1)).trans hx271_1
            replace p271 := eq_true p271
            replace q271 := eq_true q271
            have p272 : 0 ≤ (x10_2 : Int) := of_decide_eq_true (by first | (with_reducible assumption) | assumption)
            have q272 : x10_2 < (l2.length : Int) := of_decide_eq_true (by first | (with_reducible assumption) | assumption)
            obtain ⟨ad272, e272, hx272_0⟩ := Kd.at_int HR2.out x10_2 p272 q272
            obtain rfl : ad270 = ad272 := (by injection e272)
            replace hx272_0 := (HB.out.cell (World.block_lt_of_cell? w _ hx272_0)).trans hx272_0
            replace p272 := eq_true p272
            replace q272 := eq_true q272
            have p273 : 0 ≤ (x10_2 : Int) := of_decide_eq_true (by first | (with_reducible assumption) | assumption)
            have q273 : x10_2 < (l1.length : Int) := of_decide_eq_true (by first | (with_reducible assumption) | assumption)
            obtain ⟨ad273, e273, hx273_0, hx273_1⟩ := at_T39 HR1.out x10_2 p273 q273
            obtain rfl : ad271 = ad273 := (by injection e273)
            replace hx273_0 := (HB.out.cell (World.block_lt_of_cell? w _ hx273_0)).trans hx273_0
            replace hx273_1 := (HB.out.cell (World.block_lt_of_cell? w _ hx273_1)).trans hx273_1
            replace p273 := eq_true p273
            replace q273 := eq_true q273
            go_wp2
            repeat (go_quiet (fail); try go_wp2)
            go_ret2
            exact ⟨by first | rfl | (simp [errW_none, errW_some] <;> rfl) | (simp [*, errW_none, errW_some] <;> rfl), by repeat (first | (with_reducible first | exact HB.out | apply below_alloc | apply pw_below_drewN | apply below_drew1) | exact HB.out)⟩
           ·rw [if_neg c17] at H
            have c17b0 : decide (((rd_T39 l1 x10_2).f1) < (rd l2 x10_2)) = false := decide_eq_false c17
            clear c17
            have H' := Aside0.mk H
            clear H
            have p270 : 0 ≤ (x10_2 : Int) := of_decide_eq_true (by first | (with_reducible assumption) | assumption)
            have q270 : x10_2 < (l2.length : Int) := of_decide_eq_true (by first | (with_reducible assumption) | assumption)
            obtain ⟨ad270, e270, hx270_0⟩ := Kd.at_int HR2.out x10_2 p270 q270
            cases e270
            replace hx270_0 := (HB.out.cell (World.block_lt_of_cell? w _ hx270_0)).trans hx270_0
            replace p270 := eq_true p270
            replace q270 := eq_true q270
            have p271 : 0 ≤ (x10_2 : Int) := of_decide_eq_true (by first | (with_reducible assumption) | assumption)
            have q271 : x10_2 < (l1.length : Int) := of_decide_eq_true (by first | (with_reducible assumption) | assumption)
            obtain ⟨ad271, e271, hx271_0, hx271_1⟩ := at_T39 HR1.out x10_2 p271 q271
            cases e271
            replace hx271_0 := (HB.out.cell (World.block_lt_of_cell? w _ hx271_0)).trans hx271_0
            replace hx271_1 := (HB.out.cell (World.block_lt_of_cell? w _ hx271_1)).trans hx271_1
            replace p271 := eq_true p271
            replace q271 := eq_true q271
            have p272 : 0 ≤ (x10_2 : Int) := of_decide_eq_true (by first | (with_reducible assumption) | assumption)
            have q272 : x10_2 < (l2.length : Int) := of_decide_eq_true (by first | (with_reducible assumption) | assumption)
            obtain ⟨ad272, e272, hx272_0⟩ := Kd.at_int HR2.out x10_2 p272 q272
            obtain rfl : ad270 = ad272 := (by injection e272)
            replace hx272_0 := (HB.out.cell (World.block_lt_of_cell? w _ hx272_0)).trans hx272_0
            replace p272 := eq_true p272
            replace q272 := eq_true q272
            have p273 : 0 ≤ (x10_2 : Int) := of_decide_eq_true (by first | (with_reducible assumption) | assumption)
            have q273 : x10_2 < (l1.length : Int) := of_decide_eq_true (by first | (with_reducible assumption) | assumption)
            obtain ⟨ad273, e273, hx273_0, hx273_1⟩ := at_T39 HR1.out x10_2 p273 q273
            obtain rfl : ad271 = ad273 := (by injection e273)
            replace hx273_0 := (HB.out.cell (World.block_lt_of_cell? w _ hx273_0)).trans hx273_0
            replace hx273_1 := (HB.out.cell (World.block_lt_of_cell? w _ hx273_1)).trans hx273_1
            replace p273 := eq_true p273
            replace q273 := eq_true q273
            go_wp2
            repeat (go_quiet (fail); try go_wp2)
            go_roundg k2
            case measure => have := HJ5.out; have := HK2.out; omega
            case rel => exact ⟨(wrap64 (x10_2 + 1)), (by first | rfl | (simp; done) | (simp [*]; done)), H', ⟨by have := HJ5.out; have := HK2.out; omega⟩, ⟨by repeat (first | (with_reducible first | exact HB.out | apply below_alloc | apply pw_below_drewN | apply below_drew1) | exact HB.out)⟩⟩
         ·rw [if_neg c15] at H
          exact absurd H (by simp)
        ·rw [if_neg c14] at H
         exact absurd H (by simp)
       ·rw [if_neg c13] at H
        exact absurd H (by simp)
      ·rw [if_neg c12] at H
       have c12b0 : decide (x10_2 < (l0.length : Int)) = false := decide_eq_false c12
       clear c12
       have H' := Aside0.mk H
       clear H
       go_wp2
       repeat (go_quiet (fail); try go_wp2)
       go_loopg [11] k2 (fun kq v11 w' => ∃ (x11_3 : Int), v11 = .int .i64 x11_3 ∧ Aside0 (cohousingref28_Consistent.l1 kq l0 l2 x11_3 = some (r1, r2)) ∧ Aside0 (kq ≤ k2) ∧ Aside0 (Below w.heap.size w w'))
       case atStart => exact ⟨(0), (by first | rfl | (simp; done) | (simp [*]; done)), H', ⟨Nat.le_refl _⟩, ⟨by repeat (first | (with_reducible first | exact HB.out | apply below_alloc | apply pw_below_drewN | apply below_drew1) | exact HB.out)⟩⟩
       case round =>
        clear H'
        try clear c1
        try clear c2
        try clear p2
        try clear q2
        try clear hx2
        try clear p6
        try clear c9
        try clear c10
        try clear c11
        try clear c12
        try clear c12b0
        try clear c13
        try clear c13b0
        try clear c14
        try clear c14b0
        try clear c15
        try clear c15b0
        try clear c16
        try clear c16b0
        try clear c17
        try clear c17b0
        try clear hx270_0
        try clear hx271_0
        try clear hx271_1
        try clear hx272_0
        try clear hx273_0
        try clear hx273_1
        try clear p2
        try clear p270
        try clear p271
        try clear p272
        try clear p273
        try clear q270
        try clear q271
        try clear q272
        try clear q273
        obtain ⟨x11_3, rfl, HA, HK3, HB⟩ := hrel
        cases gk with
        | zero => exact absurd HA.out (by simp [cohousingref28_Consistent.l1])
        | succ k3 =>
         have H := HA.out
         clear HA
         simp only [cohousingref28_Consistent.l1] at H
         by_cases c18 : x11_3 < (l0.length : Int)
         ·rw [if_pos c18] at H
          have c18b0 : decide (x11_3 < (l0.length : Int)) = true := decide_eq_true c18
          clear c18
          replace H := Option.bind_eq_some_iff.mp H
          obtain ⟨t274, A190, H⟩ := H
          replace H : (if 0 ≤ x11_3 then (if x11_3 < (l2.length : Int) then (cohousingref28_Consistent.l2 k3 l0 l2 x11_3 t274 (rd l2 x11_3) 0) else (none)) else (none)) = some (r1, r2) := H
          have A19 := Aside0.mk A190
          clear A190
          by_cases c20 : 0 ≤ x11_3
          ·rw [if_pos c20] at H
           have c20b0 : decide (0 ≤ x11_3) = true := decide_eq_true c20
           clear c20
           by_cases c21 : x11_3 < (l2.length : Int)
           ·rw [if_pos c21] at H
            have c21b0 : decide (x11_3 < (l2.length : Int)) = true := decide_eq_true c21
            clear c21
            have H' := Aside0.mk H
            clear H
            go_wp2_with (first | (go_at_call 36; (with_reducible refine (cohousingref28_below.calls k3 _ _ l0 x11_3 t274 _ ?side1 ?side2 A19.out).mono ?_); (case side1 => repeat (first | exact (Kd.C_below HR0.out HB.out) | (with_reducible refine Kd.C_alloc ?_ _) | (with_reducible refine Kd.C_drewN ?_ _) | (with_reducible refine Kd.C_drew ?_))); (case side2 => exact HC0.out); rintro e w22 ⟨v275, rfl, ho0, hb⟩; have n0_ := Aside0.mk (Kd.R_lower ho0 (below_size (by repeat (first | (with_reducible first | exact HB.out | apply below_alloc | apply pw_below_drewN | apply below_drew1) | exact HB.out)))); have n1_ := Aside0.mk (below_step (by repeat (first | (with_reducible first | exact HB.out | apply below_alloc | apply pw_below_drewN | apply below_drew1) | exact HB.out)) hb); clear HB; have HO276 := n0_; have HB := n1_; clear n0_ n1_; (try clear hb); (try clear hb2); (try clear hk); (try clear hi); (try clear ho0); have p277 : 0 ≤ (x11_3 : Int) := of_decide_eq_true (by first | (with_reducible assumption) | assumption); have q277 : x11_3 < (l2.length : Int) := of_decide_eq_true (by first | (with_reducible assumption) | assumption); obtain ⟨ad277, e277, hx277_0⟩ := Kd.at_int HR2.out x11_3 p277 q277; cases e277; replace hx277_0 := (HB.out.cell (World.block_lt_of_cell? w _ hx277_0)).trans hx277_0; replace p277 := eq_true p277; replace q277 := eq_true q277))
            repeat (go_quiet (first | (go_at_call 36; (with_reducible refine (cohousingref28_below.calls k3 _ _ l0 x11_3 t274 _ ?side1 ?side2 A19.out).mono ?_); (case side1 => repeat (first | exact (Kd.C_below HR0.out HB.out) | (with_reducible refine Kd.C_alloc ?_ _) | (with_reducible refine Kd.C_drewN ?_ _) | (with_reducible refine Kd.C_drew ?_))); (case side2 => exact HC0.out); rintro e w22 ⟨v275, rfl, ho0, hb⟩; have n0_ := Aside0.mk (Kd.R_lower ho0 (below_size (by repeat (first | (with_reducible first | exact HB.out | apply below_alloc | apply pw_below_drewN | apply below_drew1) | exact HB.out)))); have n1_ := Aside0.mk (below_step (by repeat (first | (with_reducible first | exact HB.out | apply below_alloc | apply pw_below_drewN | apply below_drew1) | exact HB.out)) hb); clear HB; have HO276 := n0_; have HB := n1_; clear n0_ n1_; (try clear hb); (try clear hb2); (try clear hk); (try clear hi); (try clear ho0); have p277 : 0 ≤ (x11_3 : Int) := of_decide_eq_true (by first | (with_reducible assumption) | assumption); have q277 : x11_3 < (l2.length : Int) := of_decide_eq_true (by first | (with_reducible assumption) | assumption); obtain ⟨ad277, e277, hx277_0⟩ := Kd.at_int HR2.out x11_3 p277 q277; cases e277; replace hx277_0 := (HB.out.cell (World.block_lt_of_cell? w _ hx277_0)).trans hx277_0; replace p277 := eq_true p277; replace q277 := eq_true q277)); try go_wp2_with (first | (go_at_call 36; (with_reducible refine (cohousingref28_below.calls k3 _ _ l0 x11_3 t274 _ ?side1 ?side2 A19.out).mono ?_); (case side1 => repeat (first | exact (Kd.C_below HR0.out HB.out) | (with_reducible refine Kd.C_alloc ?_ _) | (with_reducible refine Kd.C_drewN ?_ _) | (with_reducible refine Kd.C_drew ?_))); (case side2 => exact HC0.out); rintro e w22 ⟨v275, rfl, ho0, hb⟩; have n0_ := Aside0.mk (Kd.R_lower ho0 (below_size (by repeat (first | (with_reducible first | exact HB.out | apply below_alloc | apply pw_below_drewN | apply below_drew1) | exact HB.out)))); have n1_ := Aside0.mk (below_step (by repeat (first | (with_reducible first | exact HB.out | apply below_alloc | apply pw_below_drewN | apply below_drew1) | exact HB.out)) hb); clear HB; have HO276 := n0_; have HB := n1_; clear n0_ n1_; (try clear hb); (try clear hb2); (try clear hk); (try clear hi); (try clear ho0); have p277 : 0 ≤ (x11_3 : Int) := of_decide_eq_true (by first | (with_reducible assumption) | assumption); have q277 : x11_3 < (l2.length : Int) := of_decide_eq_true (by first | (with_reducible assumption) | assumption); obtain ⟨ad277, e277, hx277_0⟩ := Kd.at_int HR2.out x11_3 p277 q277; cases e277; replace hx277_0 := (HB.out.cell (World.block_lt_of_cell? w _ hx277_0)).trans hx277_0; replace p277 := eq_true p277; replace q277 := eq_true q277)))
            go_loopg [13, 14] k3 (fun kq v13 v14 w' => ∃ (x13_4 : Int) (x14_4 : Int), v13 = .int .i64 x13_4 ∧ v14 = .int .i64 x14_4 ∧ Aside0 (cohousingref28_Consistent.l2 kq l0 l2 x11_3 t274 x13_4 x14_4 = some (r1, r2)) ∧ Aside0 (kq ≤ k3) ∧ Aside0 (Kd.R (Kd.int .i64) 3 w' w.heap.size (fun _ => True) v275 t274) ∧ Aside0 (Below w.heap.size w w'))
            case atStart => exact ⟨(rd l2 x11_3), (0), (by first | rfl | (simp; done) | (simp [*]; done)), (by first | rfl | (simp; done) | (simp [*]; done)), H', ⟨Nat.le_refl _⟩, ⟨by (with_reducible repeat (first | apply Kd.R_alloc | apply Kd.R_drewN | apply Kd.R_drew)); exact HO276.out⟩, ⟨by repeat (first | (with_reducible first | exact HB.out | apply below_alloc | apply pw_below_drewN | apply below_drew1) | exact HB.out)⟩⟩
            case round =>
             clear H'
             try clear c1
             try clear c2
             try clear p2
             try clear q2
             try clear hx2
             try clear p6
             try clear c9
             try clear c10
             try clear c11
             try clear c12
             try clear c12b0
             try clear c13
             try clear c13b0
             try clear c14
             try clear c14b0
             try clear c15
             try clear c15b0
             try clear c16
             try clear c16b0
             try clear c17
             try clear c17b0
             try clear c18
             try clear c18b0
             try clear c20
             try clear c20b0
             try clear c21
             try clear c21b0
             try clear hx270_0
             try clear hx271_0
             try clear hx271_1
             try clear hx272_0
             try clear hx273_0
             try clear hx273_1
             try clear hx277_0
             try clear p2
             try clear p270
             try clear p271
             try clear p272
             try clear p273
             try clear p277
             try clear p6
             try clear q2
             try clear q270
             try clear q271
             try clear q272
             try clear q273
             try clear q277
             obtain ⟨x13_4, x14_4, rfl, rfl, HA, HK4, HO_12, HB⟩ := hrel
             cases gk with
             | zero => exact absurd HA.out (by simp [cohousingref28_Consistent.l2])
             | succ k4 =>
              have H := HA.out
              clear HA
              simp only [cohousingref28_Consistent.l2] at H
              by_cases c23 : x14_4 < (t274.length : Int)
              ·rw [if_pos c23] at H
               have c23b0 : decide (x14_4 < (t274.length : Int)) = true := decide_eq_true c23
               clear c23
               by_cases c24 : 0 ≤ x14_4
               ·rw [if_pos c24] at H
                have c24b0 : decide (0 ≤ x14_4) = true := decide_eq_true c24
                clear c24
                by_cases c25 : 0 ≤ (rd t274 x14_4)
                ·rw [if_pos c25] at H
                 have c25b0 : decide (0 ≤ (rd t274 x14_4)) = true := decide_eq_true c25
                 clear c25
                 by_cases c26 : (rd t274 x14_4) < (l2.length : Int)
                 ·rw [if_pos c26] at H
                  have c26b0 : decide ((rd t274 x14_4) < (l2.length : Int)) = true := decide_eq_true c26
                  clear c26
                  have H' := Aside0.mk H
                  clear H
                  obtain ⟨Ao27, co27, eo27⟩ := Kd.R_slice HO_12.out
                  subst eo27
                  have p278 : 0 ≤ (x14_4 : Int) := of_decide_eq_true (by first | (with_reducible assumption) | assumption)
                  have q278 : x14_4 < (t274.length : Int) := of_decide_eq_true (by first | (with_reducible assumption) | assumption)
                  obtain ⟨ad278, e278, hx278_0⟩ := Kd.at_int (Kd.R_reads' HO_12.out).2.2 x14_4 p278 q278
                  cases e278
                  replace p278 := eq_true p278
                  replace q278 := eq_true q278
                  have p279 : 0 ≤ ((rd t274 x14_4) : Int) := of_decide_eq_true (by first | (with_reducible assumption) | assumption)
                  have q279 : (rd t274 x14_4) < (l2.length : Int) := of_decide_eq_true (by first | (with_reducible assumption) | assumption)
                  obtain ⟨ad279, e279, hx279_0⟩ := Kd.at_int HR2.out (rd t274 x14_4) p279 q279
                  obtain rfl : ad277 = ad279 := (by injection e279)
                  replace hx279_0 := (HB.out.cell (World.block_lt_of_cell? w _ hx279_0)).trans hx279_0
                  replace p279 := eq_true p279
                  replace q279 := eq_true q279
                  go_wp2
                  repeat (go_quiet (fail); try go_wp2)
                  go_roundg k4
                  case measure => have := HJ5.out; have := HK2.out; have := HK3.out; have := HK4.out; omega
                  case rel => exact ⟨(wrap64 (x13_4 - (rd l2 (rd t274 x14_4)))), (wrap64 (x14_4 + 1)), (by first | rfl | (simp; done) | (simp [*]; done)), (by first | rfl | (simp; done) | (simp [*]; done)), H', ⟨by have := HJ5.out; have := HK2.out; have := HK3.out; have := HK4.out; omega⟩, ⟨by (with_reducible repeat (first | apply Kd.R_alloc | apply Kd.R_drewN | apply Kd.R_drew)); exact HO_12.out⟩, ⟨by repeat (first | (with_reducible first | exact HB.out | apply below_alloc | apply pw_below_drewN | apply below_drew1) | exact HB.out)⟩⟩
                 ·rw [if_neg c26] at H
                  exact absurd H (by simp)
                ·rw [if_neg c25] at H
                 exact absurd H (by simp)
               ·rw [if_neg c24] at H
                exact absurd H (by simp)
              ·rw [if_neg c23] at H
               have c23b0 : decide (x14_4 < (t274.length : Int)) = false := decide_eq_false c23
               clear c23
               by_cases c28 : (t274.length : Int) > 0
               ·rw [if_pos c28] at H
                have c28b0 : decide (0 < (t274.length : Int)) = true := decide_eq_true c28
                have c28b1 : decide (0 < t274.length) = true := decide_eq_true (by omega)
                clear c28
                by_cases c29 : x13_4 < 0
                ·rw [if_pos c29] at H
                 have c29b0 : decide (x13_4 < 0) = true := decide_eq_true c29
                 clear c29
                 simp only [Option.some.injEq, Prod.mk.injEq] at H
                 obtain ⟨rfl, rfl⟩ := H
                 obtain ⟨Ao30, co30, eo30⟩ := Kd.R_slice HO_12.out
                 subst eo30
                 go_wp2
                 repeat (go_quiet (fail); try go_wp2)
                 go_ret2
                 exact ⟨by first | rfl | (simp [errW_none, errW_some] <;> rfl) | (simp [*, errW_none, errW_some] <;> rfl), by repeat (first | (with_reducible first | exact HB.out | apply below_alloc | apply pw_below_drewN | apply below_drew1) | exact HB.out)⟩
                ·rw [if_neg c29] at H
                 have c29b0 : decide (x13_4 < 0) = false := decide_eq_false c29
                 clear c29
                 by_cases c31 : 0 ≤ x11_3
                 ·rw [if_pos c31] at H
                  have c31b0 : decide (0 ≤ x11_3) = true := decide_eq_true c31
                  clear c31
                  by_cases c32 : x11_3 < (l0.length : Int)
                  ·rw [if_pos c32] at H
                   have c32b0 : decide (x11_3 < (l0.length : Int)) = true := decide_eq_true c32
                   clear c32
                   by_cases c33 : x13_4 > ((rd_T44 l0 x11_3).f2)
                   ·rw [if_pos c33] at H
                    have c33b0 : decide (((rd_T44 l0 x11_3).f2) < x13_4) = true := decide_eq_true c33
                    clear c33
                    simp only [Option.some.injEq, Prod.mk.injEq] at H
                    obtain ⟨rfl, rfl⟩ := H
                    obtain ⟨Ao34, co34, eo34⟩ := Kd.R_slice HO_12.out
                    subst eo34
                    have p280 : 0 ≤ (x11_3 : Int) := of_decide_eq_true (by first | (with_reducible assumption) | assumption)
                    have q280 : x11_3 < (l0.length : Int) := of_decide_eq_true (by first | (with_reducible assumption) | assumption)
                    obtain ⟨ad280, e280, hx280_0, hx280_1, hx280_2⟩ := at_T44 HR0.out x11_3 p280 q280
                    cases e280
                    replace hx280_0 := (HB.out.cell (World.block_lt_of_cell? w _ hx280_0)).trans hx280_0
                    replace hx280_1 := (HB.out.cell (World.block_lt_of_cell? w _ hx280_1)).trans hx280_1
                    replace hx280_2 := (HB.out.cell (World.block_lt_of_cell? w _ hx280_2)).trans hx280_2
                    replace p280 := eq_true p280
                    replace q280 := eq_true q280
                    go_wp2
                    repeat (go_quiet (fail); try go_wp2)
                    go_ret2
                    exact ⟨by first | rfl | (simp [errW_none, errW_some] <;> rfl) | (simp [*, errW_none, errW_some] <;> rfl), by repeat (first | (with_reducible first | exact HB.out | apply below_alloc | apply pw_below_drewN | apply below_drew1) | exact HB.out)⟩
                   ·rw [if_neg c33] at H
                    have c33b0 : decide (((rd_T44 l0 x11_3).f2) < x13_4) = false := decide_eq_false c33
                    clear c33
                    have H' := Aside0.mk H
                    clear H
                    obtain ⟨Ao35, co35, eo35⟩ := Kd.R_slice HO_12.out
                    subst eo35
                    have p280 : 0 ≤ (x11_3 : Int) := of_decide_eq_true (by first | (with_reducible assumption) | assumption)
                    have q280 : x11_3 < (l0.length : Int) := of_decide_eq_true (by first | (with_reducible assumption) | assumption)
                    obtain ⟨ad280, e280, hx280_0, hx280_1, hx280_2⟩ := at_T44 HR0.out x11_3 p280 q280
                    cases e280
                    replace hx280_0 := (HB.out.cell (World.block_lt_of_cell? w _ hx280_0)).trans hx280_0
                    replace hx280_1 := (HB.out.cell (World.block_lt_of_cell? w _ hx280_1)).trans hx280_1
                    replace hx280_2 := (HB.out.cell (World.block_lt_of_cell? w _ hx280_2)).trans hx280_2
                    replace p280 := eq_true p280
                    replace q280 := eq_true q280
                    go_wp2
                    repeat (go_quiet (fail); try go_wp2)
                    go_roundg k4
                    case measure => have := HJ5.out; have := HK2.out; have := HK3.out; have := HK4.out; omega
                    case rel => exact ⟨(wrap64 (x11_3 + 1)), (by first | rfl | (simp; done) | (simp [*]; done)), H', ⟨by have := HJ5.out; have := HK2.out; have := HK3.out; have := HK4.out; omega⟩, ⟨by repeat (first | (with_reducible first | exact HB.out | apply below_alloc | apply pw_below_drewN | apply below_drew1) | exact HB.out)⟩⟩
                  ·rw [if_neg c32] at H
                   exact absurd H (by simp)
                 ·rw [if_neg c31] at H
                  exact absurd H (by simp)
               ·rw [if_neg c28] at H
                have c28b0 : decide (0 < (t274.length : Int)) = false := decide_eq_false c28
                have c28b1 : decide (0 < t274.length) = false := decide_eq_false (by omega)
                clear c28
                have H' := Aside0.mk H
                clear H
                obtain ⟨Ao36, co36, eo36⟩ := Kd.R_slice HO_12.out
                subst eo36
                go_wp2
                repeat (go_quiet (fail); try go_wp2)
                go_roundg k4
                case measure => have := HJ5.out; have := HK2.out; have := HK3.out; have := HK4.out; omega
                case rel => exact ⟨(wrap64 (x11_3 + 1)), (by first | rfl | (simp; done) | (simp [*]; done)), H', ⟨by have := HJ5.out; have := HK2.out; have := HK3.out; have := HK4.out; omega⟩, ⟨by repeat (first | (with_reducible first | exact HB.out | apply below_alloc | apply pw_below_drewN | apply below_drew1) | exact HB.out)⟩⟩
           ·rw [if_neg c21] at H
            exact absurd H (by simp)
          ·rw [if_neg c20] at H
           exact absurd H (by simp)
         ·rw [if_neg c18] at H
          have c18b0 : decide (x11_3 < (l0.length : Int)) = false := decide_eq_false c18
          clear c18
          simp only [Option.some.injEq, Prod.mk.injEq] at H
          obtain ⟨rfl, rfl⟩ := H
          go_wp2
          repeat (go_quiet (fail); try go_wp2)
          go_ret2
          exact ⟨by first | rfl | (simp [errW_none, errW_some] <;> rfl) | (simp [*, errW_none, errW_some] <;> rfl), by repeat (first | (with_reducible first | exact HB.out | apply below_alloc | apply pw_below_drewN | apply below_drew1) | exact HB.out)⟩
end Go.Proofs.Ytmojlpafpeeelaa.P
end
section
namespace Go.Proofs.Ytmojlpafpeeelaa.P
open Go.RowKit Go.Proofs.YtmojlpafpeeelaaW.PrintWords Go.Proofs.YtmojlpafpeeelaaW.PrintLast Go.Proofs.YtmojlpafpeeelaaW.PrintMore
attribute [local go_sem] max2_int min2_int max_two min_two max_three min_three max_four min_four
set_option linter.unusedVariables false
set_option linter.unusedSimpArgs false
def cohousingref28_with.f (l0 : List (S39)) (a1 : Int) (a2 : Int) : Option ((List (S39))) := (some (([] : List (S39)) : List (S39))).bind fun y281 => (if y281.length + l0.length < 8796093022208 then ((some (y281 ++ l0 : List (S39))).bind fun y284 => (if 0 ≤ a1 then (if a1 < (y284.length : Int) then (some (y284.set (a1 : Int).toNat (⟨a2, a2⟩ : S39))) else (none)) else (none))) else (none))
set_option maxHeartbeats 8000000 in
set_option maxRecDepth 100000 in
theorem cohousingref28_with.calls (A0 : Option Addr) (c0 : Nat) (l0 : List (S39)) (a1 : Int) (a2 : Int) (r : List (S39)) (w : World) (hr0 : Kd.C k39 w A0 l0.length l0) (hc0 : l0.length ≤ c0) (h : cohousingref28_with.f l0 a1 a2 = some r) :
  Calls Try.prog 39 #[.slice A0 l0.length c0, .int .i64 a1, .int .i64 a2] w fun e w' => ∃ v0_ : Value, e = .returned (v0_) ∧ Kd.R k39 39 w' w.heap.size (fun _ => True) v0_ r ∧ Below w.heap.size w w' := by
 have hu39 := Try.underlying39
 have HR0 := Aside0.mk hr0
 have HC0 := Aside0.mk hc0
 clear hr0 hc0
 have HB := Aside0.mk (Below.refl w.heap.size w)
 have H : ((some (([] : List (S39)) : List (S39))).bind fun y281 => (if y281.length + l0.length < 8796093022208 then ((some (y281 ++ l0 : List (S39))).bind fun y284 => (if 0 ≤ a1 then (if a1 < (y284.length : Int) then (some (y284.set (a1 : Int).toNat (⟨a2, a2⟩ : S39))) else (none)) else (none))) else (none))) = some r := h
 clear h
 obtain ⟨y281, hy281⟩ : ∃ y_ : List (S39), y_ = (([] : List (S39))) := ⟨_, rfl⟩
 replace H : (if y281.length + l0.length < 8796093022208 then ((some (y281 ++ l0 : List (S39))).bind fun y284 => (if 0 ≤ a1 then (if a1 < (y284.length : Int) then (some (y284.set (a1 : Int).toNat (⟨a2, a2⟩ : S39))) else (none)) else (none))) else (none)) = some r := by first | (rw [hy281]; with_reducible exact H) | (have H2_ := (Option.bind_some _ _).symm.trans H; rw [hy281]; with_reducible exact H2_) | (have H2_ := (Option.bind_some _ _).symm.trans H; with_reducible exact H2_) | with_reducible exact H | (rw [hy281]; exact H) | exact H
 have Ny281 := Aside0.mk hy281
 clear hy281
 by_cases c4 : y281.length + l0.length < 8796093022208
 ·rw [if_pos c4] at H
  have LMc4 := Aside0.mk c4
  clear c4
  obtain ⟨y284, hy284⟩ : ∃ y_ : List (S39), y_ = (y281 ++ l0) := ⟨_, rfl⟩
  replace H : (if 0 ≤ a1 then (if a1 < (y284.length : Int) then (some (y284.set (a1 : Int).toNat (⟨a2, a2⟩ : S39))) else (none)) else (none)) = some r := by first | (rw [hy284]; with_reducible exact H) | (have H2_ := (Option.bind_some _ _).symm.trans H; rw [hy284]; with_reducible exact H2_) | (have H2_ := (Option.bind_some _ _).symm.trans H; with_reducible exact H2_) | with_reducible exact H | (rw [hy284]; exact H) | exact H
  have Ny284 := Aside0.mk hy284
  clear hy284
  by_cases c5 : 0 ≤ a1
  ·rw [if_pos c5] at H
   have c5b0 : decide (0 ≤ a1) = true := decide_eq_true c5
   clear c5
   by_cases c6 : a1 < (y284.length : Int)
   ·rw [if_pos c6] at H
    have c6b0 : decide (a1 < (y284.length : Int)) = true := decide_eq_true c6
    clear c6
    obtain ⟨y287, hy287⟩ : ∃ y_ : List (S39), y_ = (y284.set (a1 : Int).toNat (⟨a2, a2⟩ : S39)) := ⟨_, rfl⟩
    replace H : (some y287) = some r := by first | (rw [hy287]; with_reducible exact H) | (have H2_ := (Option.bind_some _ _).symm.trans H; rw [hy287]; with_reducible exact H2_) | (have H2_ := (Option.bind_some _ _).symm.trans H; with_reducible exact H2_) | with_reducible exact H | (rw [hy287]; exact H) | exact H
    have Ny287 := Aside0.mk hy287
    clear hy287
    obtain rfl := Option.some.inj H
    go_enter Try.func39, Try.ntmps39
    go_wp2_with (first | ((with_reducible refine gate_dst (N := 8) rfl ?_); refine Kd.R_lit k39 _ 39 ?hg (N := 8) ?hd (xs := ([] : List (S39))) (inner := []) (ok := fun _ => True) (okp := fun _ => True) ?hr ?hp (fun _ hk => hk) trivial (Below.refl _ _) (Nat.le_refl _) (by simp) ?_; (case hd => rfl); (case hg => rfl); (case hr => first | (go_simp; done) | (go_simp; rfl)); (case hp => exact (Reps.none _ _)); intro v282 w8 ho9 hb hg_ hnew_; clear hg_ hnew_; (first | rw [← Ny281.out] at ho9 | (simp only [Int.reduceToNat] at ho9; rw [← Ny281.out] at ho9)); have n0_ := Aside0.mk (Kd.R_lower ho9 (below_size (by repeat (first | (with_reducible first | exact HB.out | apply below_alloc | apply pw_below_drewN | apply below_drew1) | exact HB.out)))); have n1_ := Aside0.mk (below_step (by repeat (first | (with_reducible first | exact HB.out | apply below_alloc | apply pw_below_drewN | apply below_drew1) | exact HB.out)) hb); clear HB; have HO283 := n0_; have HB := n1_; clear n0_ n1_; clear hb ho9) | ((with_reducible refine gate_builtin (b := .append) (xs := #[.tmp 8, .tmp 9]) rfl ?_); at_builtin; refine Kd.R_append_rows k39 (w0 := w) w.heap.size rfl (.tmp 8) (.tmp 9) 23 39 (.agg #[(.int .i64 0), (.int .i64 0)]) 16 rfl Try.underlying23 info39 rfl (by decide) (by omega) v282 y281 l0 _ _ _ (fun _ => True) (fun _ => False) rfl rfl ?aO ?aR (fun _ _ h => h) (fun _ h => h.elim) ?aF ?aB ?aS ?aL ?_; (case aR => repeat (first | exact (Kd.C_below HR0.out HB.out) | (with_reducible refine Kd.C_alloc ?_ _) | (with_reducible refine Kd.C_drewN ?_ _) | (with_reducible refine Kd.C_drew ?_))); (case aB => exact (by repeat (first | (with_reducible first | exact HB.out | apply below_alloc | apply pw_below_drewN | apply below_drew1) | exact HB.out))); (case aF => exact (fun _ _ => trivial)); (case aO => exact (by (with_reducible repeat (first | apply Kd.R_alloc | apply Kd.R_drewN | apply Kd.R_drew)); exact HO283.out)); (case aS => exact (below_size (by repeat (first | (with_reducible first | exact HB.out | apply below_alloc | apply pw_below_drewN | apply below_drew1) | exact HB.out)))); (case aL => have := LMc4.out; omega); intro v285 w10 ho hb hg hat; rw [← Ny284.out] at ho; have n0_ := Aside0.mk (hb); have n1_ := Aside0.mk (ho); clear HB; clear HO283; have HB := n0_; have HO286 := n1_; clear n0_ n1_; clear ho hb hg hat; have p7 : 0 ≤ (a1 : Int) := of_decide_eq_true (by first | (with_reducible assumption) | assumption); have q7 : (a1 : Int) < ((y284.length : Int) : Int) := of_decide_eq_true (by first | (with_reducible assumption) | assumption); obtain ⟨go7, co7, eo7, gb7, gl7, cl7, HG7⟩ := Kd.R_form HO286.out (by omega); (first | cases eo7 | (injection eo7 with ea_ en_ ec_; (first | subst ea_ | (injection ea_ with ea_; subst ea_)); subst ec_; clear en_)); have GB7 := Aside0.mk gb7; have GG7 := Aside0.mk HG7; clear gb7 gl7 HG7; obtain ⟨ce7, hcl7, hM7, hcc7, hfr7⟩ := Kd.R_elem HO286.out z39 (a1 : Int) p7 q7; obtain rfl := k39_openM hM7; have hx7_0 : w10.cell? ⟨go7, (a1 : Int).toNat * 2, none⟩ = some (.int .i64 ((rd_T39 y284 a1).f0)) := hcc7 0 _ rfl; have hx7_1 : w10.cell? ⟨go7, (a1 : Int).toNat * 2 + 1, none⟩ = some (.int .i64 ((rd_T39 y284 a1).f1)) := hcc7 1 _ rfl; have hf7_0 : w10.frozen? ⟨go7, (a1 : Int).toNat * 2, none⟩ = false := hfr7 0; have hf7_1 : w10.frozen? ⟨go7, (a1 : Int).toNat * 2 + 1, none⟩ = false := hfr7 1; clear hcl7 hcc7 hfr7 hM7; replace p7 := eq_true p7; replace q7 := eq_true q7; have HX11 := Aside0.mk (show Kd.R k39 39 w10 w.heap.size (fun _ => True) (.slice (some ⟨go7, 0, none⟩) y284.length co7) y284 from (by (with_reducible repeat (first | apply Kd.R_alloc | apply Kd.R_drewN | apply Kd.R_drew)); exact HO286.out)); obtain ⟨ce11, hcl11, hM11, hcc11, hfr11⟩ := Kd.R_elem HX11.out z39 (a1 : Int) (of_decide_eq_true (by first | (with_reducible assumption) | assumption)) (by have h_ : (a1 : Int) < ((y284.length : Int) : Int) := of_decide_eq_true (by first | (with_reducible assumption) | assumption); first | exact h_ | (have e_ := (Kd.R_reads' HO286.out).1; omega) | simpa using h_); obtain rfl := k39_openM hM11; have HP11 := Kd.R_seg HX11.out (a1 : Int) (of_decide_eq_true (by first | (with_reducible assumption) | assumption)) (by have h_ : (a1 : Int) < ((y284.length : Int) : Int) := of_decide_eq_true (by first | (with_reducible assumption) | assumption); first | exact h_ | (have e_ := (Kd.R_reads' HO286.out).1; omega) | simpa using h_) (seg := [.int .i64 a2, .int .i64 a2]) (j := 0) hcl11 hcc11 (show 2 ≤ 2 from by decide) (x' := (⟨a2, a2⟩ : S39)) (k39_mkM _ _ _ (⟨a2, a2⟩ : S39) ) (fun _ hk => hk); have hx11_0 := hcc11 0 _ rfl; (try simp only [show (k39).sz = 2 from rfl, Nat.mul_one, Nat.add_zero] at hx11_0); have hf11_0 := hfr11 0; (try simp only [show (k39).sz = 2 from rfl, Nat.mul_one, Nat.add_zero] at hf11_0); have hx11_1 := hcc11 1 _ rfl; (try simp only [show (k39).sz = 2 from rfl, Nat.mul_one, Nat.add_zero] at hx11_1); have hf11_1 := hfr11 1; (try simp only [show (k39).sz = 2 from rfl, Nat.mul_one, Nat.add_zero] at hf11_1); clear hcl11 hcc11 hfr11 hM11) | ((with_reducible refine gate_store (t := 39) (p := 16) rfl ?_); refine store_event (t := 39) (p := 16) (v := ?vo_w12) (w1 := ((w10.setCell ⟨go7, (a1 : Int).toNat * 2, none⟩ (.int .i64 a2)).setCell ⟨go7, (a1 : Int).toNat * 2 + 1, none⟩ (.int .i64 a2))) ?hg ?ho ?hn ?hr ?_; (case ho => rfl); (case hg => rfl); (case hn => rfl); (case hr => first | (go_simp; done) | (go_simp; rfl)); intro w12 hw; have hg : w10.grownBy w12 (some go7) := (by rw [hw]; exact HP11.2); have hp_ : Kd.R k39 39 w12 w.heap.size (fun _ => True) (.slice (some ⟨go7, 0, none⟩) y284.length co7) y287 := (by rw [hw, Ny287.out]; exact HP11.1); clear HP11; have n0_ := Aside0.mk (hp_); have n1_ := Aside0.mk ((by rw [hw]; exact below_set (below_set (HB.out) GB7.out) GB7.out : Below w.heap.size w w12)); clear HO286; clear HB; have HO286 := n0_; have HB := n1_; clear n0_ n1_; clear hg hw hp_))
    go_ret
    exact ⟨_, by first | rfl | (simp [errW_none, errW_some] <;> rfl) | (simp [*, errW_none, errW_some] <;> rfl), by (with_reducible repeat (first | apply Kd.R_alloc | apply Kd.R_drewN | apply Kd.R_drew)); exact HO286.out, by repeat (first | (with_reducible first | exact HB.out | apply below_alloc | apply pw_below_drewN | apply below_drew1) | exact HB.out)⟩
   ·rw [if_neg c6] at H
    exact absurd H (by simp)
  ·rw [if_neg c5] at H
   exact absurd H (by simp)
 ·rw [if_neg c4] at H
  exact absurd H (by simp)
end Go.Proofs.Ytmojlpafpeeelaa.P
end
section
namespace Go.Proofs.Ytmojlpafpeeelaa.P
open Go.RowKit Go.Proofs.YtmojlpafpeeelaaW.PrintWords Go.Proofs.YtmojlpafpeeelaaW.PrintLast Go.Proofs.YtmojlpafpeeelaaW.PrintMore
attribute [local go_sem] max2_int min2_int max_two min_two max_three min_three max_four min_four
set_option linter.unusedVariables false
set_option linter.unusedSimpArgs false
mutual
def cohousingref28_State.j0 : Nat → List (S44) → List (S39) → Int → Int → Bool → Option (List Int × Int)
 | 0, _, _, _, _, _ => none
 | k + 1, x0, x1, x2, x3, x38 => if x38 = true then (some (([] : List Int), 1)) else (if 0 ≤ x2 then (if x2 < (x1.length : Int) then (if x3 < ((rd_T39 x1 x2).f0) then (cohousingref28_State.j1 k x0 x1 x2 x3 true) else (cohousingref28_State.j1 k x0 x1 x2 x3 (decide (x3 > ((rd_T39 x1 x2).f1))))) else (none)) else (none))
def cohousingref28_State.j1 : Nat → List (S44) → List (S39) → Int → Int → Bool → Option (List Int × Int)
 | 0, _, _, _, _, _ => none
 | k + 1, x0, x1, x2, x3, x54 => if x54 = true then (some (([] : List Int), 30)) else ((cohousingref28_with.f x1 x2 x3).bind fun t292 => ((cohousingref28_bounds.f k x0 t292).bind fun bt295 => (if bt295.2 = true then (cohousingref28_State.l0 k x0 bt295.1 ([] : List Int) 0) else (some (([] : List Int), 30)))))
def cohousingref28_State.l0 : Nat → List (S44) → List (S39) → List Int → Int → Option (List Int × Int)
 | 0, _, _, _, _ => none
 | k + 1, x0, x12, x14, x15 => if x15 < (x0.length : Int) then (if 0 ≤ x15 then (if x15 < (x12.length : Int) then (if x14.length < 17592186044416 then ((some (x14 ++ [(rd_T39 x12 x15).f0] : List Int)).bind fun y300 => ((cohousingref28_with.f x12 x15 ((rd_T39 x12 x15).f0)).bind fun t304 => ((cohousingref28_bounds.f k x0 t304).bind fun bt307 => (if bt307.2 = true then (cohousingref28_State.l0 k x0 bt307.1 y300 (wrap64 (x15 + 1))) else (cohousingref28_State.l0 k x0 x12 y300 (wrap64 (x15 + 1))))))) else (none)) else (none)) else (none)) else (some (x14, 0))
end
def cohousingref28_State.f (k : Nat) (l0 : List (S44)) (l1 : List (S39)) (a2 : Int) (a3 : Int) : Option (List Int × Int) := (cohousingref28_Valid.f k l0).bind fun t288 => ((cohousingref28_Belongs.f l0 l1).bind fun t289 => (if t288 = true then (if t289 = true then (if a2 < 0 then (cohousingref28_State.j0 k l0 l1 a2 a3 true) else (cohousingref28_State.j0 k l0 l1 a2 a3 (decide (a2 ≥ (l0.length : Int))))) else (cohousingref28_State.j0 k l0 l1 a2 a3 true)) else (cohousingref28_State.j0 k l0 l1 a2 a3 true)))
set_option maxHeartbeats 8000000 in
set_option maxRecDepth 100000 in
theorem cohousingref28_State.calls (k : Nat) (A0 : Option Addr) (c0 : Nat) (l0 : List (S44)) (A1 : Option Addr) (c1 : Nat) (l1 : List (S39)) (a2 : Int) (a3 : Int) (r1 : List Int) (r2 : Int) (w : World) (hr0 : Kd.C k44 w A0 l0.length l0) (hc0 : l0.length ≤ c0) (hr1 : Kd.C k39 w A1 l1.length l1) (hc1 : l1.length ≤ c1) (h : cohousingref28_State.f k l0 l1 a2 a3 = some (r1, r2)) :
  Calls Try.prog 19 #[.slice A0 l0.length c0, .slice A1 l1.length c1, .int .i64 a2, .int .i64 a3] w fun e w' => ∃ v0_ : Value, e = .returned (.tuple #[v0_, .int .i64 r2]) ∧ Kd.R (Kd.int .i64) 3 w' w.heap.size (fun _ => True) v0_ r1 ∧ Below w.heap.size w w' := by
 have HR0 := Aside0.mk hr0
 have HC0 := Aside0.mk hc0
 clear hr0 hc0
 have HR1 := Aside0.mk hr1
 have HC1 := Aside0.mk hc1
 clear hr1 hc1
 have HB := Aside0.mk (Below.refl w.heap.size w)
 have H : ((cohousingref28_Valid.f k l0).bind fun t288 => ((cohousingref28_Belongs.f l0 l1).bind fun t289 => (if t288 = true then (if t289 = true then (if a2 < 0 then (cohousingref28_State.j0 k l0 l1 a2 a3 true) else (cohousingref28_State.j0 k l0 l1 a2 a3 (decide (a2 ≥ (l0.length : Int))))) else (cohousingref28_State.j0 k l0 l1 a2 a3 true)) else (cohousingref28_State.j0 k l0 l1 a2 a3 true)))) = some (r1, r2) := h
 clear h
 replace H := Option.bind_eq_some_iff.mp H
 obtain ⟨t288, A50, H⟩ := H
 replace H : ((cohousingref28_Belongs.f l0 l1).bind fun t289 => (if t288 = true then (if t289 = true then (if a2 < 0 then (cohousingref28_State.j0 k l0 l1 a2 a3 true) else (cohousingref28_State.j0 k l0 l1 a2 a3 (decide (a2 ≥ (l0.length : Int))))) else (cohousingref28_State.j0 k l0 l1 a2 a3 true)) else (cohousingref28_State.j0 k l0 l1 a2 a3 true))) = some (r1, r2) := H
 have A5 := Aside0.mk A50
 clear A50
 replace H := Option.bind_eq_some_iff.mp H
 obtain ⟨t289, A60, H⟩ := H
 replace H : (if t288 = true then (if t289 = true then (if a2 < 0 then (cohousingref28_State.j0 k l0 l1 a2 a3 true) else (cohousingref28_State.j0 k l0 l1 a2 a3 (decide (a2 ≥ (l0.length : Int))))) else (cohousingref28_State.j0 k l0 l1 a2 a3 true)) else (cohousingref28_State.j0 k l0 l1 a2 a3 true)) = some (r1, r2) := H
 have A6 := Aside0.mk A60
 clear A60
 have HC7 := Aside0.mk H
 clear H
 go_enter Try.func19, Try.ntmps19
 go_upto_region 3 with (first | ((with_reducible refine gate_callee (f := 14) rfl ?_); refine goesL_ (some 19) rfl rfl Try.func14 (by kernel_rfl) rfl #[.slice A0 l0.length c0] rfl (by (try simp only [List.map_toArray, List.map_cons, List.map_nil]); first | done | rfl | (simp only [List.length_drop, List.length_take]; rfl)) ?_; (with_reducible refine (cohousingref28_Valid.calls k _ _ l0 t288 _ ?side1 ?side2 A5.out).mono ?_); (case side1 => repeat (first | exact HR0.out | (with_reducible refine Kd.C_alloc ?_ _) | (with_reducible refine Kd.C_drewN ?_ _) | (with_reducible refine Kd.C_drew ?_))); (case side2 => exact HC0.out); rintro e w8 ⟨rfl, hb⟩; refine ⟨_, rfl, ?_⟩; have n0_ := Aside0.mk (below_step (by repeat (first | (with_reducible first | exact HB.out | apply below_alloc | apply pw_below_drewN | apply below_drew1) | exact HB.out)) hb); clear HB; have HB := n0_; clear n0_; (try clear hb); (try clear hb2); (try clear hk); (try clear hi)) | ((with_reducible refine gate_callee (f := 29) rfl ?_); refine goesL_ (some 22) rfl rfl Try.func29 (by kernel_rfl) rfl #[.slice A0 l0.length c0, .slice A1 l1.length c1] rfl (by (try simp only [List.map_toArray, List.map_cons, List.map_nil]); first | done | rfl | (simp only [List.length_drop, List.length_take]; rfl)) ?_; (with_reducible refine (cohousingref28_Belongs.calls _ _ l0 _ _ l1 t289 _ ?side1 ?side2 ?side3 ?side4 A6.out).mono ?_); (case side1 => repeat (first | exact (Kd.C_below HR0.out HB.out) | (with_reducible refine Kd.C_alloc ?_ _) | (with_reducible refine Kd.C_drewN ?_ _) | (with_reducible refine Kd.C_drew ?_))); (case side2 => exact HC0.out); (case side3 => repeat (first | exact (Kd.C_below HR1.out HB.out) | (with_reducible refine Kd.C_alloc ?_ _) | (with_reducible refine Kd.C_drewN ?_ _) | (with_reducible refine Kd.C_drew ?_))); (case side4 => exact HC1.out); rintro e w9 ⟨rfl, hb⟩; refine ⟨_, rfl, ?_⟩; have n0_ := Aside0.mk (below_step (by repeat (first | (with_reducible first | exact HB.out | apply below_alloc | apply pw_below_drewN | apply below_drew1) | exact HB.out)) hb); clear HB; have HB := n0_; clear n0_; (try clear hb); (try clear hb2); (try clear hk); (try clear hi)))
 (try simp only [Act.put, sI_, s0_, sS_])
 go_cut [38] (fun v38 wc => ∃ (kq : Nat) (x38_6 : Bool), v38 = .bool x38_6 ∧ Aside0 (cohousingref28_State.j0 kq l0 l1 a2 a3 x38_6 = some (r1, r2)) ∧ Aside0 (kq ≤ k) ∧ Aside0 (Below w.heap.size w wc))
 case first =>
  have H := HC7.out
  clear HC7
  by_cases c10 : t288 = true
  ·subst c10
   have H1 : (if t289 = true then (if a2 < 0 then (cohousingref28_State.j0 k l0 l1 a2 a3 true) else (cohousingref28_State.j0 k l0 l1 a2 a3 (decide (a2 ≥ (l0.length : Int))))) else (cohousingref28_State.j0 k l0 l1 a2 a3 true)) = some (r1, r2) := by rw [if_pos rfl] at H; exact H
   clear H
   have H := H1
   clear H1
   by_cases c11 : t289 = true
   ·subst c11
    have H1 : (if a2 < 0 then (cohousingref28_State.j0 k l0 l1 a2 a3 true) else (cohousingref28_State.j0 k l0 l1 a2 a3 (decide (a2 ≥ (l0.length : Int))))) = some (r1, r2) := by rw [if_pos rfl] at H; exact H
    clear H
    have H := H1
    clear H1
    by_cases c12 : a2 < 0
    ·rw [if_pos c12] at H
     have c12b0 : decide (a2 < 0) = true := decide_eq_true c12
     clear c12
     (first | rw [c12b0] | (simp only [i64_w, i32_w]; rw [c12b0]) | skip)
     have H' := Aside0.mk H
     clear H
     go_wp2
     go_meet
     case rel => exact ⟨_, (true), (by first | rfl | (simp; done) | (simp [*]; done)), H', ⟨by first | omega | exact Nat.le_refl _⟩, ⟨by repeat (first | (with_reducible first | exact HB.out | apply below_alloc | apply pw_below_drewN | apply below_drew1) | exact HB.out)⟩⟩
    ·rw [if_neg c12] at H
     have c12b0 : decide (a2 < 0) = false := decide_eq_false c12
     clear c12
     (first | rw [c12b0] | (simp only [i64_w, i32_w]; rw [c12b0]) | skip)
     have H' := Aside0.mk H
     clear H
     go_wp2
     go_meet
     case rel => exact ⟨_, (decide (a2 ≥ (l0.length : Int))), (by first | rfl | (simp; done) | (simp [*]; done)), H', ⟨by first | omega | exact Nat.le_refl _⟩, ⟨by repeat (first | (with_reducible first | exact HB.out | apply below_alloc | apply pw_below_drewN | apply below_drew1) | exact HB.out)⟩⟩
   ·replace c11 := Bool.eq_false_iff.mpr c11
    subst c11
    have H1 : (cohousingref28_State.j0 k l0 l1 a2 a3 true) = some (r1, r2) := by rw [if_neg (show ¬ (false = true) by decide)] at H; exact H
    clear H
    have H := H1
    clear H1
    have H' := Aside0.mk H
    clear H
    go_wp2
    go_meet
    case rel => exact ⟨_, (true), (by first | rfl | (simp; done) | (simp [*]; done)), H', ⟨by first | omega | exact Nat.le_refl _⟩, ⟨by repeat (first | (with_reducible first | exact HB.out | apply below_alloc | apply pw_below_drewN | apply below_drew1) | exact HB.out)⟩⟩
  ·replace c10 := Bool.eq_false_iff.mpr c10
   subst c10
   have H1 : (cohousingref28_State.j0 k l0 l1 a2 a3 true) = some (r1, r2) := by rw [if_neg (show ¬ (false = true) by decide)] at H; exact H
   clear H
   have H := H1
   clear H1
   have H' := Aside0.mk H
   clear H
   go_wp2
   go_meet
   case rel => exact ⟨_, (true), (by first | rfl | (simp; done) | (simp [*]; done)), H', ⟨by first | omega | exact Nat.le_refl _⟩, ⟨by repeat (first | (with_reducible first | exact HB.out | apply below_alloc | apply pw_below_drewN | apply below_drew1) | exact HB.out)⟩⟩
 case rest =>
  clear HC7
  try clear c1
  try clear c2
  try clear p2
  try clear c10
  try clear c11
  try clear c12
  try clear c12b0
  obtain ⟨kq, x38_6, rfl, HA, HJ6, HB⟩ := hcut
  cases kq with
  | zero => exact absurd HA.out (by simp [cohousingref28_State.j0])
  | succ kj6 =>
   have H := HA.out
   clear HA
   simp only [cohousingref28_State.j0] at H
   by_cases c13 : x38_6 = true
   ·subst c13
    have H1 : (some (([] : List Int), 1)) = some (r1, r2) := by rw [if_pos rfl] at H; exact H
    clear H
    have H := H1
    clear H1
    simp only [Option.some.injEq, Prod.mk.injEq] at H
    obtain ⟨rfl, rfl⟩ := H
    go_wp2
    go_ret2
    exact ⟨_, by first | rfl | (simp [errW_none, errW_some] <;> rfl) | (simp [*, errW_none, errW_some] <;> rfl), by first | exact Kd.R_nil _ _ _ _ _ | exact Kd.N_nil _ _ _ _ _ | exact Kd.V_nil _ _ _ _ _ | exact Kd.Q_nil _ _ _ _ _ | exact Kd.S_nil _ _ _ _ _, by repeat (first | (with_reducible first | exact HB.out | apply below_alloc | apply pw_below_drewN | apply below_drew1) | exact HB.out)⟩
   ·replace c13 := Bool.eq_false_iff.mpr c13
    subst c13
    have H1 : (if 0 ≤ a2 then (if a2 < (l1.length : Int) then (if a3 < ((rd_T39 l1 a2).f0) then (cohousingref28_State.j1 kj6 l0 l1 a2 a3 true) else (cohousingref28_State.j1 kj6 l0 l1 a2 a3 (decide (a3 > ((rd_T39 l1 a2).f1))))) else (none)) else (none)) = some (r1, r2) := by rw [if_neg (show ¬ (false = true) by decide)] at H; exact H
    clear H
    have H := H1
    clear H1
    have HC14 := Aside0.mk H
    clear H
    go_upto_region 5 with (fail)
    go_cut [54] (fun v54 wc => ∃ (kq : Nat) (x54_13 : Bool), v54 = .bool x54_13 ∧ Aside0 (cohousingref28_State.j1 kq l0 l1 a2 a3 x54_13 = some (r1, r2)) ∧ Aside0 (kq ≤ kj6) ∧ Aside0 (Below w.heap.size w wc))
    case first =>
     have H := HC14.out
     clear HC14
     by_cases c15 : 0 ≤ a2
     ·rw [if_pos c15] at H
      have c15b0 : decide (0 ≤ a2) = true := decide_eq_true c15
      clear c15
      (first | rw [c15b0] | (simp only [i64_w, i32_w]; rw [c15b0]) | skip)
      by_cases c16 : a2 < (l1.length : Int)
      ·rw [if_pos c16] at H
       have c16b0 : decide (a2 < (l1.length : Int)) = true := decide_eq_true c16
       clear c16
       by_cases c17 : a3 < ((rd_T39 l1 a2).f0)
       ·rw [if_pos c17] at H
        have c17b0 : decide (a3 < ((rd_T39 l1 a2).f0)) = true := decide_eq_true c17
        clear c17
        have H' := Aside0.mk H
        clear H
        have p290 : 0 ≤ (a2 : Int) := of_decide_eq_true (by first | (with_reducible assumption) | assumption)
        have q290 : a2 < (l1.length : Int) := of_decide_eq_true (by first | (with_reducible assumption) | assumption)
        obtain ⟨ad290, e290, hx290_0, hx290_1⟩ := at_T39 HR1.out a2 p290 q290
        cases e290
        replace hx290_0 := (HB.out.cell (World.block_lt_of_cell? w _ hx290_0)).trans hx290_0
        replace hx290_1 := (HB.out.cell (World.block_lt_of_cell? w _ hx290_1)).trans hx290_1
        replace p290 := eq_true p290
        replace q290 := eq_true q290
        go_wp2
        go_meet
        case rel => exact ⟨_, (true), (by first | rfl | (simp; done) | (simp [*]; done)), H', ⟨by have := HJ6.out; first | omega | exact Nat.le_refl _⟩, ⟨by repeat (first | (with_reducible first | exact HB.out | apply below_alloc | apply pw_below_drewN | apply below_drew1) | exact HB.out)⟩⟩
       ·rw [if_neg c17] at H
        have c17b0 : decide (a3 < ((rd_T39 l1 a2).f0)) = false := decide_eq_false c17
        clear c17
        have H' := Aside0.mk H
        clear H
        have p290 : 0 ≤ (a2 : Int) := of_decide_eq_true (by first | (with_reducible assumption) | assumption)
        have q290 : a2 < (l1.length : Int) := of_decide_eq_true (by first | (with_reducible assumption) | assumption)
        obtain ⟨ad290, e290, hx290_0, hx290_1⟩ := at_T39 HR1.out a2 p290 q290
        cases e290
        replace hx290_0 := (HB.out.cell (World.block_lt_of_cell? w _ hx290_0)).trans hx290_0
        replace hx290_1 := (HB.out.cell (World.block_lt_of_cell? w _ hx290_1)).trans hx290_1
        replace p290 := eq_true p290
        replace q290 := eq_true q290
        have p291 : 0 ≤ (a2 : Int) := of_decide_eq_true (by first | (with_reducible assumption) | assumption)
        have q291 : a2 < (l1.length : Int) := of_decide_eq_true (by first | (with_reducible assumption) | assumption)
        obtain ⟨ad291, e291, hx291_0, hx291_1⟩ := at_T39 HR1.out a2 p291 q291
        obtain rfl : ad290 = ad291 := (by injection e291)
        replace hx291_0 := (HB.out.cell (World.block_lt_of_cell? w _ hx291_0)).trans hx291_0
        replace hx291_1 := (HB.out.cell (World.block_lt_of_cell? w _ hx291_1)).trans hx291_1
        replace p291 := eq_true p291
        replace q291 := eq_true q291
        go_wp2
        go_meet
        case rel => exact ⟨_, (decide (a3 > ((rd_T39 l1 a2).f1))), (by first | rfl | (simp; done) | (simp [*]; done)), H', ⟨by have := HJ6.out; first | omega | exact Nat.le_refl _⟩, ⟨by repeat (first | (with_reducible first | exact HB.out | apply below_alloc | apply pw_below_drewN | apply below_drew1) | exact HB.out)⟩⟩
      ·rw [if_neg c16] at H
       exact absurd H (by simp)
     ·rw [if_neg c15] at H
      exact absurd H (by simp)
    case rest =>
     clear HC14
     try clear c1
     try clear c2
     try clear p2
     try clear q2
     try clear hx2
     try clear c10
     try clear c11
     try clear c12
     try clear c12b0
     try clear c13
     try clear c14
     try clear c15
     try clear c15b0
     try clear c16
     try clear c16b0
     try clear c17
     try clear c17b0
     try clear hx290_0
     try clear hx290_1
     try clear hx291_0
     try clear hx291_1
     try clear p2
     try clear p290
     try clear p291
     try clear q290
     try clear q291
     obtain ⟨kq, x54_13, rfl, HA, HJ13, HB⟩ := hcut
     cases kq with
     | zero => exact absurd HA.out (by simp [cohousingref28_State.j1])
     | succ kj13 =>
      have H := HA.out
      clear HA
      simp only [cohousingref28_State.j1] at H
      by_cases c18 : x54_13 = true
      ·subst c18
       have H1 : (some (([] : List Int), 30)) = some (r1, r2) := by rw [if_pos rfl] at H; exact H
       clear H
       have H := H1
       clear H1
       simp only [Option.some.injEq, Prod.mk.injEq] at H
       obtain ⟨rfl, rfl⟩ := H
       go_wp2
       go_ret2
       exact ⟨_, by first | rfl | (simp [errW_none, errW_some] <;> rfl) | (simp [*, errW_none, errW_some] <;> rfl), by first | exact Kd.R_nil _ _ _ _ _ | exact Kd.N_nil _ _ _ _ _ | exact Kd.V_nil _ _ _ _ _ | exact Kd.Q_nil _ _ _ _ _ | exact Kd.S_nil _ _ _ _ _, by repeat (first | (with_reducible first | exact HB.out | apply below_alloc | apply pw_below_drewN | apply below_drew1) | exact HB.out)⟩
      ·replace c18 := Bool.eq_false_iff.mpr c18
       subst c18
       have H1 : ((cohousingref28_with.f l1 a2 a3).bind fun t292 => ((cohousingref28_bounds.f kj13 l0 t292).bind fun bt295 => (if bt295.2 = true then (cohousingref28_State.l0 kj13 l0 bt295.1 ([] : List Int) 0) else (some (([] : List Int), 30))))) = some (r1, r2) := by rw [if_neg (show ¬ (false = true) by decide)] at H; exact H
       clear H
       have H := H1
       clear H1
       replace H := Option.bind_eq_some_iff.mp H
       obtain ⟨t292, A190, H⟩ := H
       replace H : ((cohousingref28_bounds.f kj13 l0 t292).bind fun bt295 => (if bt295.2 = true then (cohousingref28_State.l0 kj13 l0 bt295.1 ([] : List Int) 0) else (some (([] : List Int), 30)))) = some (r1, r2) := H
       have A19 := Aside0.mk A190
       clear A190
       replace H := Option.bind_eq_some_iff.mp H
       obtain ⟨⟨t295, t298⟩, A200, H⟩ := H
       replace H : (if t298 = true then (cohousingref28_State.l0 kj13 l0 t295 ([] : List Int) 0) else (some (([] : List Int), 30))) = some (r1, r2) := H
       have A20 := Aside0.mk A200
       clear A200
       by_cases c21 : t298 = true
       ·subst c21
        have H1 : (cohousingref28_State.l0 kj13 l0 t295 ([] : List Int) 0) = some (r1, r2) := by rw [if_pos rfl] at H; exact H
        clear H
        have H := H1
        clear H1
        have H' := Aside0.mk H
        clear H
        go_wp2_with (first | ((with_reducible refine gate_callee (f := 39) rfl ?_); refine goesL_ (some 60) rfl rfl Try.func39 (by kernel_rfl) rfl #[.slice A1 l1.length c1, .int .i64 a2, .int .i64 a3] rfl (by (try simp only [List.map_toArray, List.map_cons, List.map_nil]); first | done | rfl | (simp only [List.length_drop, List.length_take]; rfl)) ?_; (with_reducible refine (cohousingref28_with.calls _ _ l1 a2 a3 t292 _ ?side1 ?side2 A19.out).mono ?_); (case side1 => repeat (first | exact (Kd.C_below HR1.out HB.out) | (with_reducible refine Kd.C_alloc ?_ _) | (with_reducible refine Kd.C_drewN ?_ _) | (with_reducible refine Kd.C_drew ?_))); (case side2 => exact HC1.out); rintro e w22 ⟨v293, rfl, ho0, hb⟩; refine ⟨_, rfl, ?_⟩; have n0_ := Aside0.mk (Kd.R_lower ho0 (below_size (by repeat (first | (with_reducible first | exact HB.out | apply below_alloc | apply pw_below_drewN | apply below_drew1) | exact HB.out)))); have n1_ := Aside0.mk (below_step (by repeat (first | (with_reducible first | exact HB.out | apply below_alloc | apply pw_below_drewN | apply below_drew1) | exact HB.out)) hb); clear HB; have HO294 := n0_; have HB := n1_; clear n0_ n1_; (try clear hb); (try clear hb2); (try clear hk); (try clear hi); (try clear ho0); obtain ⟨Ao23, co23, eo23⟩ := Kd.R_slice HO294.out; subst eo23) | ((with_reducible refine gate_callee (f := 30) rfl ?_); refine goesL_ (some 61) rfl rfl Try.func30 (by kernel_rfl) rfl #[.slice A0 l0.length c0, .slice Ao23 t292.length co23] rfl (by (try simp only [List.map_toArray, List.map_cons, List.map_nil]); first | done | rfl | (simp only [List.length_drop, List.length_take]; rfl)) ?_; (with_reducible refine (cohousingref28_bounds.calls kj13 _ _ l0 (fun k_ => some k_ = (.slice Ao23 t292.length co23 : Value).ownBlock) _ _ t292 t295 true _ ?side1 ?side2 ?side3 A20.out).mono ?_); (case side1 => repeat (first | exact (Kd.C_below HR0.out HB.out) | (with_reducible refine Kd.C_alloc ?_ _) | (with_reducible refine Kd.C_drewN ?_ _) | (with_reducible refine Kd.C_drew ?_))); (case side2 => exact HC0.out); (case side3 => exact Kd.R_V (Kd.R_tight rfl (HO294.out))); rintro e w24 ⟨v296, rfl, ho0, hb⟩; refine ⟨_, rfl, ?_⟩; have n0_ := Aside0.mk (Kd.R_below (by (with_reducible repeat (first | apply Kd.R_alloc | apply Kd.R_drewN | apply Kd.R_drew)); exact HO294.out) hb); have n1_ := Aside0.mk (Kd.V_lower (Kd.V_mono (ok' := fun k_ => True) ho0 (fun k_ hk_ => trivial)) (below_size (by repeat (first | (with_reducible first | exact HB.out | apply below_alloc | apply pw_below_drewN | apply below_drew1) | exact HB.out)))); have n2_ := Aside0.mk (below_step (by repeat (first | (with_reducible first | exact HB.out | apply below_alloc | apply pw_below_drewN | apply below_drew1) | exact HB.out)) hb); clear HO294; clear HB; have HO294 := n0_; have HO297 := n1_; have HB := n2_; clear n0_ n1_ n2_; (try clear hb); (try clear hb2); (try clear hk); (try clear hi); (try clear ho0)))
        go_loopg [12, 14, 15] kj13 (fun kq v12 v14 v15 w' => ∃ (x12_3 : List (S39)) (x14_3 : List Int) (x15_3 : Int), v15 = .int .i64 x15_3 ∧ Aside0 (cohousingref28_State.l0 kq l0 x12_3 x14_3 x15_3 = some (r1, r2)) ∧ Aside0 (kq ≤ kj13) ∧ Aside0 (Kd.V k39 39 w' w.heap.size (fun k_ => some k_ ≠ (v14 : Value).ownBlock) v12 x12_3) ∧ Aside0 (Kd.R (Kd.int .i64) 3 w' w.heap.size (fun _ => True) v14 x14_3) ∧ Aside0 (Below w.heap.size w w'))
        case atStart => exact ⟨(t295), (([] : List Int)), (0), (by first | rfl | (simp; done) | (simp [*]; done)), H', ⟨Nat.le_refl _⟩, ⟨by (with_reducible repeat (first | apply Kd.V_alloc | apply Kd.V_drewN | apply Kd.V_drew)); exact Kd.V_mono HO297.out (fun _ hk => (by simp [Value.ownBlock]))⟩, ⟨by first | exact Kd.R_nil _ _ _ _ _ | exact Kd.N_nil _ _ _ _ _ | exact Kd.V_nil _ _ _ _ _ | exact Kd.Q_nil _ _ _ _ _ | exact Kd.S_nil _ _ _ _ _⟩, ⟨by repeat (first | (with_reducible first | exact HB.out | apply below_alloc | apply pw_below_drewN | apply below_drew1) | exact HB.out)⟩⟩
        case round =>
         clear H'
         try clear c1
         try clear c2
         try clear p2
         try clear q2
         try clear hx2
         try clear c3
         try clear c10
         try clear c11
         try clear c12
         try clear c12b0
         try clear c13
         try clear c14
         try clear c15
         try clear c15b0
         try clear c16
         try clear c16b0
         try clear c17
         try clear c17b0
         try clear c18
         try clear c19
         try clear c21
         try clear hx290_0
         try clear hx290_1
         try clear hx291_0
         try clear hx291_1
         try clear p2
         try clear p290
         try clear p291
         try clear q2
         try clear q290
         try clear q291
         obtain ⟨x12_3, x14_3, x15_3, rfl, HA, HK3, HO_12, HO_14, HB⟩ := hrel
         cases gk with
         | zero => exact absurd HA.out (by simp [cohousingref28_State.l0])
         | succ k3 =>
          have H := HA.out
          clear HA
          simp only [cohousingref28_State.l0] at H
          by_cases c25 : x15_3 < (l0.length : Int)
          ·rw [if_pos c25] at H
           have c25b0 : decide (x15_3 < (l0.length : Int)) = true := decide_eq_true c25
           clear c25
           by_cases c26 : 0 ≤ x15_3
           ·rw [if_pos c26] at H
            have c26b0 : decide (0 ≤ x15_3) = true := decide_eq_true c26
            clear c26
            by_cases c27 : x15_3 < (x12_3.length : Int)
            ·rw [if_pos c27] at H
             have c27b0 : decide (x15_3 < (x12_3.length : Int)) = true := decide_eq_true c27
             clear c27
             by_cases c28 : x14_3.length < 17592186044416
             ·rw [if_pos c28] at H
              have LMc28 := Aside0.mk c28
              clear c28
              obtain ⟨y300, hy300⟩ : ∃ y_ : List Int, y_ = (x14_3 ++ [(rd_T39 x12_3 x15_3).f0]) := ⟨_, rfl⟩
              replace H : ((cohousingref28_with.f x12_3 x15_3 ((rd_T39 x12_3 x15_3).f0)).bind fun t304 => ((cohousingref28_bounds.f k3 l0 t304).bind fun bt307 => (if bt307.2 = true then (cohousingref28_State.l0 k3 l0 bt307.1 y300 (wrap64 (x15_3 + 1))) else (cohousingref28_State.l0 k3 l0 x12_3 y300 (wrap64 (x15_3 + 1)))))) = some (r1, r2) := by first | (rw [hy300]; with_reducible exact H) | (have H2_ := (Option.bind_some _ _).symm.trans H; rw [hy300]; with_reducible exact H2_) | (have H2_ := (Option.bind_some _ _).symm.trans H; with_reducible exact H2_) | with_reducible exact H | (rw [hy300]; exact H) | exact H
              have Ny300 := Aside0.mk hy300
              clear hy300
              replace H := Option.bind_eq_some_iff.mp H
              obtain ⟨t304, A290, H⟩ := H
              replace H : ((cohousingref28_bounds.f k3 l0 t304).bind fun bt307 => (if bt307.2 = true then (cohousingref28_State.l0 k3 l0 bt307.1 y300 (wrap64 (x15_3 + 1))) else (cohousingref28_State.l0 k3 l0 x12_3 y300 (wrap64 (x15_3 + 1))))) = some (r1, r2) := H
              have A29 := Aside0.mk A290
              clear A290
              replace H := Option.bind_eq_some_iff.mp H
              obtain ⟨⟨t307, t310⟩, A300, H⟩ := H
              replace H : (if t310 = true then (cohousingref28_State.l0 k3 l0 t307 y300 (wrap64 (x15_3 + 1))) else (cohousingref28_State.l0 k3 l0 x12_3 y300 (wrap64 (x15_3 + 1)))) = some (r1, r2) := H
              have A30 := Aside0.mk A300
              clear A300
              by_cases c31 : t310 = true
              ·subst c31
               have H1 : (cohousingref28_State.l0 k3 l0 t307 y300 (wrap64 (x15_3 + 1))) = some (r1, r2) := by rw [if_pos rfl] at H; exact H
               clear H
               have H := H1
               clear H1
               have H' := Aside0.mk H
               clear H
               obtain ⟨Ao32, co32, eo32⟩ := Kd.V_slice HO_12.out
               subst eo32
               have p299 : 0 ≤ (x15_3 : Int) := of_decide_eq_true (by first | (with_reducible assumption) | assumption)
               have q299 : x15_3 < (x12_3.length : Int) := of_decide_eq_true (by first | (with_reducible assumption) | assumption)
               obtain ⟨ad299, e299, hx299_0, hx299_1⟩ := at_T39 (Kd.V_reads' HO_12.out).2.2 x15_3 p299 q299
               cases e299
               replace p299 := eq_true p299
               replace q299 := eq_true q299
               go_wp2_with (first | ((with_reducible refine gate_builtin (b := .append) (xs := #[.tmp 72, .tmp 78]) rfl ?_); (try (refine gate_guard (by rfl) ?_; dsimp only)); at_builtin; refine Kd.R_append (Kd.int .i64) (w0 := w) w.heap.size rfl (.tmp 72) (.tmp 78) 24 3 (.int .i64 0) 8 rfl Try.underlying24 info3 rfl (by decide) (by omega) u14 x14_3 ((rd_T39 x12_3 x15_3).f0) [.int .i64 ((rd_T39 x12_3 x15_3).f0)] (fun _ => True) (fun _ => False) rfl rfl ?aP (fun _ hk => hk.elim) ?aF ?aO ?aB ?aS ?aL ?_; (case aP => exact rfl); (case aB => exact (by repeat (first | (with_reducible first | exact HB.out | apply below_alloc | apply pw_below_drewN | apply below_drew1) | exact HB.out))); (case aF => exact (fun _ _ => trivial)); (case aO => exact (by (with_reducible repeat (first | apply Kd.R_alloc | apply Kd.R_drewN | apply Kd.R_drew)); exact HO_14.out)); (case aS => exact (below_size (by repeat (first | (with_reducible first | exact HB.out | apply below_alloc | apply pw_below_drewN | apply below_drew1) | exact HB.out)))); (case aL => have := LMc28.out; omega); intro v301 w33 ho hb hg hat; rw [← Ny300.out] at ho; have n0_ := Aside0.mk (Kd.V_afterv (ok := (fun _ => True)) (by (with_reducible repeat (first | apply Kd.V_alloc | apply Kd.V_drewN | apply Kd.V_drew)); exact Kd.V_mono HO_12.out (fun _ hk => ⟨trivial, hk⟩)) hg hat); have n1_ := Aside0.mk (hb); have n2_ := Aside0.mk (ho); clear HO_12; clear HB; clear HO_14; have HO_12 := n0_; have HB := n1_; have HO302 := n2_; clear n0_ n1_ n2_; clear ho hb hg hat; have p303 : 0 ≤ (x15_3 : Int) := of_decide_eq_true (by first | (with_reducible assumption) | assumption); have q303 : x15_3 < (x12_3.length : Int) := of_decide_eq_true (by first | (with_reducible assumption) | assumption); obtain ⟨ad303, e303, hx303_0, hx303_1⟩ := at_T39 (Kd.V_reads' HO_12.out).2.2 x15_3 p303 q303; obtain rfl : ad299 = ad303 := (by injection e303); replace p303 := eq_true p303; replace q303 := eq_true q303) | ((with_reducible refine gate_callee (f := 39) rfl ?_); refine goesL_ (some 89) rfl rfl Try.func39 (by kernel_rfl) rfl #[.slice (some ad299) x12_3.length co32, .int .i64 x15_3, .int .i64 ((rd_T39 x12_3 x15_3).f0)] rfl (by (try simp only [List.map_toArray, List.map_cons, List.map_nil]); first | done | rfl | (simp only [List.length_drop, List.length_take]; rfl)) ?_; (with_reducible refine (cohousingref28_with.calls _ _ x12_3 x15_3 ((rd_T39 x12_3 x15_3).f0) t304 _ ?side1 ?side2 A29.out).mono ?_); (case side1 => repeat (first | exact (Kd.V_reads' HO_12.out).2.2 | (with_reducible refine Kd.C_alloc ?_ _) | (with_reducible refine Kd.C_drewN ?_ _) | (with_reducible refine Kd.C_drew ?_))); (case side2 => exact (Kd.V_reads' HO_12.out).2.1); rintro e w34 ⟨v305, rfl, ho0, hb⟩; refine ⟨_, rfl, ?_⟩; have n0_ := Aside0.mk (Kd.V_elder' (by (with_reducible repeat (first | apply Kd.V_alloc | apply Kd.V_drewN | apply Kd.V_drew)); exact HO_12.out) (Kd.R_base ho0) hb); have n1_ := Aside0.mk (Kd.R_below (by (with_reducible repeat (first | apply Kd.R_alloc | apply Kd.R_drewN | apply Kd.R_drew)); exact HO302.out) hb); have n2_ := Aside0.mk (Kd.R_lower ho0 (below_size (by repeat (first | (with_reducible first | exact HB.out | apply below_alloc | apply pw_below_drewN | apply below_drew1) | exact HB.out)))); have n3_ := Aside0.mk (below_step (by repeat (first | (with_reducible first | exact HB.out | apply below_alloc | apply pw_below_drewN | apply below_drew1) | exact HB.out)) hb); clear HO_12; clear HO302; clear HB; have HO_12 := n0_; have HO302 := n1_; have HO306 := n2_; have HB := n3_; clear n0_ n1_ n2_ n3_; (try clear hb); (try clear hb2); (try clear hk); (try clear hi); (try clear ho0); obtain ⟨Ao35, co35, eo35⟩ := Kd.R_slice HO306.out; subst eo35) | ((with_reducible refine gate_callee (f := 30) rfl ?_); refine goesL_ (some 90) rfl rfl Try.func30 (by kernel_rfl) rfl #[.slice A0 l0.length c0, .slice Ao35 t304.length co35] rfl (by (try simp only [List.map_toArray, List.map_cons, List.map_nil]); first | done | rfl | (simp only [List.length_drop, List.length_take]; rfl)) ?_; (with_reducible refine (cohousingref28_bounds.calls k3 _ _ l0 (fun k_ => some k_ = (.slice Ao35 t304.length co35 : Value).ownBlock) _ _ t304 t307 true _ ?side1 ?side2 ?side3 A30.out).mono ?_); (case side1 => repeat (first | exact (Kd.C_below HR0.out HB.out) | (with_reducible refine Kd.C_alloc ?_ _) | (with_reducible refine Kd.C_drewN ?_ _) | (with_reducible refine Kd.C_drew ?_))); (case side2 => exact HC0.out); (case side3 => exact Kd.R_V (Kd.R_tight rfl (Kd.R_apart' (HO306.out) (Kd.R_typed HO302.out) (by decide)))); rintro e w36 ⟨v308, rfl, ho0, hb⟩; refine ⟨_, rfl, ?_⟩; have n0_ := Aside0.mk (Kd.V_below (by (with_reducible repeat (first | apply Kd.V_alloc | apply Kd.V_drewN | apply Kd.V_drew)); exact HO_12.out) hb); have n1_ := Aside0.mk (Kd.R_below (by (with_reducible repeat (first | apply Kd.R_alloc | apply Kd.R_drewN | apply Kd.R_drew)); exact HO302.out) hb); have n2_ := Aside0.mk (Kd.R_below (by (with_reducible repeat (first | apply Kd.R_alloc | apply Kd.R_drewN | apply Kd.R_drew)); exact HO306.out) hb); have n3_ := Aside0.mk (Kd.V_lower (Kd.V_mono (ok' := fun k_ => some k_ ≠ (v301 : Value).ownBlock) ho0 (fun k_ hk_ => Or.elim hk_ (fun hs_ => ((Kd.R_apart' (HO306.out) (Kd.R_typed HO302.out) (by decide)).1 k_ hs_.symm).2) (fun hn_ => (Kd.fresh' (Kd.R_lt (by (with_reducible repeat (first | apply Kd.R_alloc | apply Kd.R_drewN | apply Kd.R_drew)); exact HO302.out)) k_ hn_)))) (below_size (by repeat (first | (with_reducible first | exact HB.out | apply below_alloc | apply pw_below_drewN | apply below_drew1) | exact HB.out)))); have n4_ := Aside0.mk (below_step (by repeat (first | (with_reducible first | exact HB.out | apply below_alloc | apply pw_below_drewN | apply below_drew1) | exact HB.out)) hb); clear HO_12; clear HO302; clear HO306; clear HB; have HO_12 := n0_; have HO302 := n1_; have HO306 := n2_; have HO309 := n3_; have HB := n4_; clear n0_ n1_ n2_ n3_ n4_; (try clear hb); (try clear hb2); (try clear hk); (try clear hi); (try clear ho0)))
               go_roundg k3
               case measure => have := HJ6.out; have := HJ13.out; have := HK3.out; omega
               case rel => exact ⟨(t307), (y300), (wrap64 (x15_3 + 1)), (by first | rfl | (simp; done) | (simp [*]; done)), H', ⟨by have := HJ6.out; have := HJ13.out; have := HK3.out; omega⟩, ⟨by (with_reducible repeat (first | apply Kd.V_alloc | apply Kd.V_drewN | apply Kd.V_drew)); exact HO309.out⟩, ⟨by (with_reducible repeat (first | apply Kd.R_alloc | apply Kd.R_drewN | apply Kd.R_drew)); exact HO302.out⟩, ⟨by repeat (first | (with_reducible first | exact HB.out | apply below_alloc | apply pw_below_drewN | apply below_drew1) | exact HB.out)⟩⟩
              ·replace c31 := Bool.eq_false_iff.mpr c31
               subst c31
               have H1 : (cohousingref28_State.l0 k3 l0 x12_3 y300 (wrap64 (x15_3 + 1))) = some (r1, r2) := by rw [if_neg (show ¬ (false = true) by decide)] at H; exact H
               clear H
               have H := H1
               clear H1
               have H' := Aside0.mk H
               clear H
               obtain ⟨Ao37, co37, eo37⟩ := Kd.V_slice HO_12.out
               subst eo37
               have p299 : 0 ≤ (x15_3 : Int) := of_decide_eq_true (by first | (with_reducible assumption) | assumption)
               have q299 : x15_3 < (x12_3.length : Int) := of_decide_eq_true (by first | (with_reducible assumption) | assumption)
               obtain ⟨ad299, e299, hx299_0, hx299_1⟩ := at_T39 (Kd.V_reads' HO_12.out).2.2 x15_3 p299 q299
               cases e299
               replace p299 := eq_true p299
               replace q299 := eq_true q299
               go_wp2_with (first | ((with_reducible refine gate_builtin (b := .append) (xs := #[.tmp 72, .tmp 78]) rfl ?_); (try (refine gate_guard (by rfl) ?_; dsimp only)); at_builtin; refine Kd.R_append (Kd.int .i64) (w0 := w) w.heap.size rfl (.tmp 72) (.tmp 78) 24 3 (.int .i64 0) 8 rfl Try.underlying24 info3 rfl (by decide) (by omega) u14 x14_3 ((rd_T39 x12_3 x15_3).f0) [.int .i64 ((rd_T39 x12_3 x15_3).f0)] (fun _ => True) (fun _ => False) rfl rfl ?aP (fun _ hk => hk.elim) ?aF ?aO ?aB ?aS ?aL ?_; (case aP => exact rfl); (case aB => exact (by repeat (first | (with_reducible first | exact HB.out | apply below_alloc | apply pw_below_drewN | apply below_drew1) | exact HB.out))); (case aF => exact (fun _ _ => trivial)); (case aO => exact (by (with_reducible repeat (first | apply Kd.R_alloc | apply Kd.R_drewN | apply Kd.R_drew)); exact HO_14.out)); (case aS => exact (below_size (by repeat (first | (with_reducible first | exact HB.out | apply below_alloc | apply pw_below_drewN | apply below_drew1) | exact HB.out)))); (case aL => have := LMc28.out; omega); intro v301 w38 ho hb hg hat; rw [← Ny300.out] at ho; have n0_ := Aside0.mk (Kd.V_afterv (ok := (fun _ => True)) (by (with_reducible repeat (first | apply Kd.V_alloc | apply Kd.V_drewN | apply Kd.V_drew)); exact Kd.V_mono HO_12.out (fun _ hk => ⟨trivial, hk⟩)) hg hat); have n1_ := Aside0.mk (hb); have n2_ := Aside0.mk (ho); clear HO_12; clear HB; clear HO_14; have HO_12 := n0_; have HB := n1_; have HO302 := n2_; clear n0_ n1_ n2_; clear ho hb hg hat; have p303 : 0 ≤ (x15_3 : Int) := of_decide_eq_true (by first | (with_reducible assumption) | assumption); have q303 : x15_3 < (x12_3.length : Int) := of_decide_eq_true (by first | (with_reducible assumption) | assumption); obtain ⟨ad303, e303, hx303_0, hx303_1⟩ := at_T39 (Kd.V_reads' HO_12.out).2.2 x15_3 p303 q303; obtain rfl : ad299 = ad303 := (by injection e303); replace p303 := eq_true p303; replace q303 := eq_true q303) | ((with_reducible refine gate_callee (f := 39) rfl ?_); refine goesL_ (some 89) rfl rfl Try.func39 (by kernel_rfl) rfl #[.slice (some ad299) x12_3.length co37, .int .i64 x15_3, .int .i64 ((rd_T39 x12_3 x15_3).f0)] rfl (by (try simp only [List.map_toArray, List.map_cons, List.map_nil]); first | done | rfl | (simp only [List.length_drop, List.length_take]; rfl)) ?_; (with_reducible refine (cohousingref28_with.calls _ _ x12_3 x15_3 ((rd_T39 x12_3 x15_3).f0) t304 _ ?side1 ?side2 A29.out).mono ?_); (case side1 => repeat (first | exact (Kd.V_reads' HO_12.out).2.2 | (with_reducible refine Kd.C_alloc ?_ _) | (with_reducible refine Kd.C_drewN ?_ _) | (with_reducible refine Kd.C_drew ?_))); (case side2 => exact (Kd.V_reads' HO_12.out).2.1); rintro e w39 ⟨v305, rfl, ho0, hb⟩; refine ⟨_, rfl, ?_⟩; have n0_ := Aside0.mk (Kd.V_elder' (by (with_reducible repeat (first | apply Kd.V_alloc | apply Kd.V_drewN | apply Kd.V_drew)); exact HO_12.out) (Kd.R_base ho0) hb); have n1_ := Aside0.mk (Kd.R_below (by (with_reducible repeat (first | apply Kd.R_alloc | apply Kd.R_drewN | apply Kd.R_drew)); exact HO302.out) hb); have n2_ := Aside0.mk (Kd.R_lower ho0 (below_size (by repeat (first | (with_reducible first | exact HB.out | apply below_alloc | apply pw_below_drewN | apply below_drew1) | exact HB.out)))); have n3_ := Aside0.mk (below_step (by repeat (first | (with_reducible first | exact HB.out | apply below_alloc | apply pw_below_drewN | apply below_drew1) | exact HB.out)) hb); clear HO_12; clear HO302; clear HB; have HO_12 := n0_; have HO302 := n1_; have HO306 := n2_; have HB := n3_; clear n0_ n1_ n2_ n3_; (try clear hb); (try clear hb2); (try clear hk); (try clear hi); (try clear ho0); obtain ⟨Ao40, co40, eo40⟩ := Kd.R_slice HO306.out; subst eo40) | ((with_reducible refine gate_callee (f := 30) rfl ?_); refine goesL_ (some 90) rfl rfl Try.func30 (by kernel_rfl) rfl #[.slice A0 l0.length c0, .slice Ao40 t304.length co40] rfl (by (try simp only [List.map_toArray, List.map_cons, List.map_nil]); first | done | rfl | (simp only [List.length_drop, List.length_take]; rfl)) ?_; (with_reducible refine (cohousingref28_bounds.calls k3 _ _ l0 (fun k_ => some k_ = (.slice Ao40 t304.length co40 : Value).ownBlock) _ _ t304 t307 false _ ?side1 ?side2 ?side3 A30.out).mono ?_); (case side1 => repeat (first | exact (Kd.C_below HR0.out HB.out) | (with_reducible refine Kd.C_alloc ?_ _) | (with_reducible refine Kd.C_drewN ?_ _) | (with_reducible refine Kd.C_drew ?_))); (case side2 => exact HC0.out); (case side3 => exact Kd.R_V (Kd.R_tight rfl (Kd.R_apart' (HO306.out) (Kd.R_typed HO302.out) (by decide)))); rintro e w41 ⟨v308, rfl, ho0, hb⟩; refine ⟨_, rfl, ?_⟩; have n0_ := Aside0.mk (Kd.V_below (by (with_reducible repeat (first | apply Kd.V_alloc | apply Kd.V_drewN | apply Kd.V_drew)); exact HO_12.out) hb); have n1_ := Aside0.mk (Kd.R_below (by (with_reducible repeat (first | apply Kd.R_alloc | apply Kd.R_drewN | apply Kd.R_drew)); exact HO302.out) hb); have n2_ := Aside0.mk (Kd.R_below (by (with_reducible repeat (first | apply Kd.R_alloc | apply Kd.R_drewN | apply Kd.R_drew)); exact HO306.out) hb); have n3_ := Aside0.mk (Kd.V_lower (Kd.V_mono (ok' := fun k_ => some k_ ≠ (v301 : Value).ownBlock) ho0 (fun k_ hk_ => Or.elim hk_ (fun hs_ => ((Kd.R_apart' (HO306.out) (Kd.R_typed HO302.out) (by decide)).1 k_ hs_.symm).2) (fun hn_ => (Kd.fresh' (Kd.R_lt (by (with_reducible repeat (first | apply Kd.R_alloc | apply Kd.R_drewN | apply Kd.R_drew)); exact HO302.out)) k_ hn_)))) (below_size (by repeat (first | (with_reducible first | exact HB.out | apply below_alloc | apply pw_below_drewN | apply below_drew1) | exact HB.out)))); have n4_ := Aside0.mk (below_step (by repeat (first | (with_reducible first | exact HB.out | apply below_alloc | apply pw_below_drewN | apply below_drew1) | exact HB.out)) hb); clear HO_12; clear HO302; clear HO306; clear HB; have HO_12 := n0_; have HO302 := n1_; have HO306 := n2_; have HO309 := n3_; have HB := n4_; clear n0_ n1_ n2_ n3_ n4_; (try clear hb); (try clear hb2); (try clear hk); (try clear hi); (try clear ho0)))
               go_roundg k3
               case measure => have := HJ6.out; have := HJ13.out; have := HK3.out; omega
               case rel => exact ⟨(x12_3), (y300), (wrap64 (x15_3 + 1)), (by first | rfl | (simp; done) | (simp [*]; done)), H', ⟨by have := HJ6.out; have := HJ13.out; have := HK3.out; omega⟩, ⟨by (with_reducible repeat (first | apply Kd.V_alloc | apply Kd.V_drewN | apply Kd.V_drew)); exact Kd.V_mono HO_12.out (fun _ hk => hk.1.2)⟩, ⟨by (with_reducible repeat (first | apply Kd.R_alloc | apply Kd.R_drewN | apply Kd.R_drew)); exact HO302.out⟩, ⟨by repeat (first | (with_reducible first | exact HB.out | apply below_alloc | apply pw_below_drewN | apply below_drew1) | exact HB.out)⟩⟩
             ·rw [if_neg c28] at H
              exact absurd H (by simp)
            ·rw [if_neg c27] at H
             exact absurd H (by simp)
           ·rw [if_neg c26] at H
            exact absurd H (by simp)
          ·rw [if_neg c25] at H
           have c25b0 : decide (x15_3 < (l0.length : Int)) = false := decide_eq_false c25
           clear c25
           simp only [Option.some.injEq, Prod.mk.injEq] at H
           obtain ⟨rfl, rfl⟩ := H
           go_wp2
           go_ret2
           exact ⟨_, by first | rfl | (simp [errW_none, errW_some] <;> rfl) | (simp [*, errW_none, errW_some] <;> rfl), by (with_reducible repeat (first | apply Kd.R_alloc | apply Kd.R_drewN | apply Kd.R_drew)); exact HO_14.out, by repeat (first | (with_reducible first | exact HB.out | apply below_alloc | apply pw_below_drewN | apply below_drew1) | exact HB.out)⟩
       ·replace c21 := Bool.eq_false_iff.mpr c21
        subst c21
        have H1 : (some (([] : List Int), 30)) = some (r1, r2) := by rw [if_neg (show ¬ (false = true) by decide)] at H; exact H
        clear H
        have H := H1
        clear H1
        simp only [Option.some.injEq, Prod.mk.injEq] at H
        obtain ⟨rfl, rfl⟩ := H
        go_wp2_with (first | ((with_reducible refine gate_callee (f := 39) rfl ?_); refine goesL_ (some 60) rfl rfl Try.func39 (by kernel_rfl) rfl #[.slice A1 l1.length c1, .int .i64 a2, .int .i64 a3] rfl (by (try simp only [List.map_toArray, List.map_cons, List.map_nil]); first | done | rfl | (simp only [List.length_drop, List.length_take]; rfl)) ?_; (with_reducible refine (cohousingref28_with.calls _ _ l1 a2 a3 t292 _ ?side1 ?side2 A19.out).mono ?_); (case side1 => repeat (first | exact (Kd.C_below HR1.out HB.out) | (with_reducible refine Kd.C_alloc ?_ _) | (with_reducible refine Kd.C_drewN ?_ _) | (with_reducible refine Kd.C_drew ?_))); (case side2 => exact HC1.out); rintro e w42 ⟨v293, rfl, ho0, hb⟩; refine ⟨_, rfl, ?_⟩; have n0_ := Aside0.mk (Kd.R_lower ho0 (below_size (by repeat (first | (with_reducible first | exact HB.out | apply below_alloc | apply pw_below_drewN | apply below_drew1) | exact HB.out)))); have n1_ := Aside0.mk (below_step (by repeat (first | (with_reducible first | exact HB.out | apply below_alloc | apply pw_below_drewN | apply below_drew1) | exact HB.out)) hb); clear HB; have HO294 := n0_; have HB := n1_; clear n0_ n1_; (try clear hb); (try clear hb2); (try clear hk); (try clear hi); (try clear ho0); obtain ⟨Ao43, co43, eo43⟩ := Kd.R_slice HO294.out; subst eo43) | ((with_reducible refine gate_callee (f := 30) rfl ?_); refine goesL_ (some 61) rfl rfl Try.func30 (by kernel_rfl) rfl #[.slice A0 l0.length c0, .slice Ao43 t292.length co43] rfl (by (try simp only [List.map_toArray, List.map_cons, List.map_nil]); first | done | rfl | (simp only [List.length_drop, List.length_take]; rfl)) ?_; (with_reducible refine (cohousingref28_bounds.calls kj13 _ _ l0 (fun k_ => some k_ = (.slice Ao43 t292.length co43 : Value).ownBlock) _ _ t292 t295 false _ ?side1 ?side2 ?side3 A20.out).mono ?_); (case side1 => repeat (first | exact (Kd.C_below HR0.out HB.out) | (with_reducible refine Kd.C_alloc ?_ _) | (with_reducible refine Kd.C_drewN ?_ _) | (with_reducible refine Kd.C_drew ?_))); (case side2 => exact HC0.out); (case side3 => exact Kd.R_V (Kd.R_tight rfl (HO294.out))); rintro e w44 ⟨v296, rfl, ho0, hb⟩; refine ⟨_, rfl, ?_⟩; have n0_ := Aside0.mk (Kd.R_below (by (with_reducible repeat (first | apply Kd.R_alloc | apply Kd.R_drewN | apply Kd.R_drew)); exact HO294.out) hb); have n1_ := Aside0.mk (Kd.V_lower (Kd.V_mono (ok' := fun k_ => True) ho0 (fun k_ hk_ => trivial)) (below_size (by repeat (first | (with_reducible first | exact HB.out | apply below_alloc | apply pw_below_drewN | apply below_drew1) | exact HB.out)))); have n2_ := Aside0.mk (below_step (by repeat (first | (with_reducible first | exact HB.out | apply below_alloc | apply pw_below_drewN | apply below_drew1) | exact HB.out)) hb); clear HO294; clear HB; have HO294 := n0_; have HO297 := n1_; have HB := n2_; clear n0_ n1_ n2_; (try clear hb); (try clear hb2); (try clear hk); (try clear hi); (try clear ho0)))
        go_ret2
        exact ⟨_, by first | rfl | (simp [errW_none, errW_some] <;> rfl) | (simp [*, errW_none, errW_some] <;> rfl), by first | exact Kd.R_nil _ _ _ _ _ | exact Kd.N_nil _ _ _ _ _ | exact Kd.V_nil _ _ _ _ _ | exact Kd.Q_nil _ _ _ _ _ | exact Kd.S_nil _ _ _ _ _, by repeat (first | (with_reducible first | exact HB.out | apply below_alloc | apply pw_below_drewN | apply below_drew1) | exact HB.out)⟩
end Go.Proofs.Ytmojlpafpeeelaa.P
end
section
namespace Go.Proofs.Ytmojlpafpeeelaa.P
open Go.RowKit Go.Proofs.YtmojlpafpeeelaaW.PrintWords Go.Proofs.YtmojlpafpeeelaaW.PrintLast Go.Proofs.YtmojlpafpeeelaaW.PrintMore
attribute [local go_sem] max2_int min2_int max_two min_two max_three min_three max_four min_four
set_option linter.unusedVariables false
set_option linter.unusedSimpArgs false
mutual
def cohousinglaw28_FlowMatchesReference.j0 : Nat → List (S44) → List (S39) → List Int → Int → Int → Bool → Bool → Option (Bool)
 | 0, _, _, _, _, _, _, _ => none
 | k + 1, x0, x1, x2, x3, x4, x11, x28 => if x28 = true then (some x11) else ((flow_Bounds.f x0 x1).bind fun bt312 => ((cohousingref28_Bounds.f k x0 x1).bind fun bt316 => (if x11 = true then ((flow_Valid.f x0).bind fun t320 => ((cohousingref28_Valid.f k x0).bind fun t321 => (if (t320 == t321) = true then ((cohousingref28_Same.f k bt312.1 bt316.1).bind fun t322 => (if t322 = true then (cohousinglaw28_FlowMatchesReference.j1 k x0 x1 x2 x3 x4 (bt312.2 == bt316.2)) else (cohousinglaw28_FlowMatchesReference.j1 k x0 x1 x2 x3 x4 false))) else (cohousinglaw28_FlowMatchesReference.j1 k x0 x1 x2 x3 x4 false)))) else (cohousinglaw28_FlowMatchesReference.j1 k x0 x1 x2 x3 x4 false))))
def cohousinglaw28_FlowMatchesReference.j1 : Nat → List (S44) → List (S39) → List Int → Int → Int → Bool → Option (Bool)
 | 0, _, _, _, _, _, _ => none
 | k + 1, x0, x1, x2, x3, x4, x11 => (flow_Consistent.f x0 x1 x2).bind fun bt323 => ((cohousingref28_Consistent.f k x0 x1 x2).bind fun bt325 => (if x11 = true then (if (bt323.1 == bt325.1) = true then ((flow_State.f x0 x1 x3 x4).bind fun bt327 => ((cohousingref28_State.f k x0 x1 x3 x4).bind fun bt331 => (if bt323.2 = bt325.2 then ((cohousingref02_Same.f k bt327.1 bt331.1).bind fun t335 => (if t335 = true then (some (bt327.2 == bt331.2)) else (some false))) else (some false)))) else ((flow_State.f x0 x1 x3 x4).bind fun bt336 => ((cohousingref28_State.f k x0 x1 x3 x4).bind fun bt340 => (some false)))) else ((flow_State.f x0 x1 x3 x4).bind fun bt344 => ((cohousingref28_State.f k x0 x1 x3 x4).bind fun bt348 => (some false)))))
end
def cohousinglaw28_FlowMatchesReference.f (k : Nat) (l0 : List (S44)) (l1 : List (S39)) (l2 : List Int) (a3 : Int) (a4 : Int) : Option (Bool) := (cohousinglaw28_head.f k).bind fun t311 => (if (l0.length : Int) > 40 then (cohousinglaw28_FlowMatchesReference.j0 k l0 l1 l2 a3 a4 t311 (decide ((l0.length : Int) ≤ 200))) else (cohousinglaw28_FlowMatchesReference.j0 k l0 l1 l2 a3 a4 t311 false))
set_option maxHeartbeats 8000000 in
set_option maxRecDepth 100000 in
theorem cohousinglaw28_FlowMatchesReference.calls (k : Nat) (A0 : Option Addr) (c0 : Nat) (l0 : List (S44)) (A1 : Option Addr) (c1 : Nat) (l1 : List (S39)) (A2 : Option Addr) (c2 : Nat) (l2 : List Int) (a3 : Int) (a4 : Int) (r : Bool) (w : World) (hr0 : Kd.C k44 w A0 l0.length l0) (hc0 : l0.length ≤ c0) (hr1 : Kd.C k39 w A1 l1.length l1) (hc1 : l1.length ≤ c1) (hr2 : Kd.C (Kd.int .i64) w A2 l2.length l2) (hc2 : l2.length ≤ c2) (h : cohousinglaw28_FlowMatchesReference.f k l0 l1 l2 a3 a4 = some r) :
  Calls Try.prog 3 #[.slice A0 l0.length c0, .slice A1 l1.length c1, .slice A2 l2.length c2, .int .i64 a3, .int .i64 a4] w fun e w' => e = .returned (.bool r) ∧ Below w.heap.size w w' := by
 have HR0 := Aside0.mk hr0
 have HC0 := Aside0.mk hc0
 clear hr0 hc0
 have HR1 := Aside0.mk hr1
 have HC1 := Aside0.mk hc1
 clear hr1 hc1
 have HR2 := Aside0.mk hr2
 have HC2 := Aside0.mk hc2
 clear hr2 hc2
 have HB := Aside0.mk (Below.refl w.heap.size w)
 have H : ((cohousinglaw28_head.f k).bind fun t311 => (if (l0.length : Int) > 40 then (cohousinglaw28_FlowMatchesReference.j0 k l0 l1 l2 a3 a4 t311 (decide ((l0.length : Int) ≤ 200))) else (cohousinglaw28_FlowMatchesReference.j0 k l0 l1 l2 a3 a4 t311 false))) = some r := h
 clear h
 replace H := Option.bind_eq_some_iff.mp H
 obtain ⟨t311, A60, H⟩ := H
 replace H : (if (l0.length : Int) > 40 then (cohousinglaw28_FlowMatchesReference.j0 k l0 l1 l2 a3 a4 t311 (decide ((l0.length : Int) ≤ 200))) else (cohousinglaw28_FlowMatchesReference.j0 k l0 l1 l2 a3 a4 t311 false)) = some r := H
 have A6 := Aside0.mk A60
 clear A60
 have HC7 := Aside0.mk H
 clear H
 go_enter Try.func3, Try.ntmps3
 go_upto_region 2 with (first | ((with_reducible refine gate_callee (f := 10) rfl ?_); refine goesL_ (some 20) rfl rfl Try.func10 (by kernel_rfl) rfl #[] rfl (by (try simp only [List.map_toArray, List.map_cons, List.map_nil]); first | done | rfl | (simp only [List.length_drop, List.length_take]; rfl)) ?_; (with_reducible refine (cohousinglaw28_head.calls k  t311 _ A6.out).mono ?_); rintro e w8 ⟨rfl, hb⟩; refine ⟨_, rfl, ?_⟩; have n0_ := Aside0.mk (below_step (by repeat (first | (with_reducible first | exact HB.out | apply below_alloc | apply pw_below_drewN | apply below_drew1) | exact HB.out)) hb); clear HB; have HB := n0_; clear n0_; (try clear hb); (try clear hb2); (try clear hk); (try clear hi)))
 (try simp only [Act.put, sI_, s0_, sS_])
 go_cut [28] (fun v28 wc => ∃ (kq : Nat) (x28_6 : Bool), v28 = .bool x28_6 ∧ Aside0 (cohousinglaw28_FlowMatchesReference.j0 kq l0 l1 l2 a3 a4 t311 x28_6 = some r) ∧ Aside0 (kq ≤ k) ∧ Aside0 (Below w.heap.size w wc))
 case first =>
  have H := HC7.out
  clear HC7
  by_cases c9 : (l0.length : Int) > 40
  ·rw [if_pos c9] at H
   have c9b0 : decide (40 < (l0.length : Int)) = true := decide_eq_true c9
   have c9b1 : decide (40 < l0.length) = true := decide_eq_true (by omega)
   clear c9
   (first | rw [c9b0] | (simp only [i64_w, i32_w]; rw [c9b0]) | skip)
   have H' := Aside0.mk H
   clear H
   go_wp2
   go_meet
   case rel => exact ⟨_, (decide ((l0.length : Int) ≤ 200)), (by first | rfl | (simp; done) | (simp [*]; done)), H', ⟨by first | omega | exact Nat.le_refl _⟩, ⟨by repeat (first | (with_reducible first | exact HB.out | apply below_alloc | apply pw_below_drewN | apply below_drew1) | exact HB.out)⟩⟩
  ·rw [if_neg c9] at H
   have c9b0 : decide (40 < (l0.length : Int)) = false := decide_eq_false c9
   have c9b1 : decide (40 < l0.length) = false := decide_eq_false (by omega)
   clear c9
   (first | rw [c9b0] | (simp only [i64_w, i32_w]; rw [c9b0]) | skip)
   have H' := Aside0.mk H
   clear H
   go_wp2
   go_meet
   case rel => exact ⟨_, (false), (by first | rfl | (simp; done) | (simp [*]; done)), H', ⟨by first | omega | exact Nat.le_refl _⟩, ⟨by repeat (first | (with_reducible first | exact HB.out | apply below_alloc | apply pw_below_drewN | apply below_drew1) | exact HB.out)⟩⟩
 case rest =>
  clear HC7
  try clear c1
  try clear c2
  try clear p2
  try clear c3
  try clear c9
  try clear c9b0
  try clear c9b1
  obtain ⟨kq, x28_6, rfl, HA, HJ6, HB⟩ := hcut
  cases kq with
  | zero => exact absurd HA.out (by simp [cohousinglaw28_FlowMatchesReference.j0])
  | succ kj6 =>
   have H := HA.out
   clear HA
   simp only [cohousinglaw28_FlowMatchesReference.j0] at H
   by_cases c10 : x28_6 = true
   ·subst c10
    have H1 : (some t311) = some r := by rw [if_pos rfl] at H; exact H
    clear H
    have H := H1
    clear H1
    obtain rfl := Option.some.inj H
    go_wp2
    go_ret
    exact ⟨by first | rfl | (simp [errW_none, errW_some] <;> rfl) | (simp [*, errW_none, errW_some] <;> rfl), by repeat (first | (with_reducible first | exact HB.out | apply below_alloc | apply pw_below_drewN | apply below_drew1) | exact HB.out)⟩
   ·replace c10 := Bool.eq_false_iff.mpr c10
    subst c10
    have H1 : ((flow_Bounds.f l0 l1).bind fun bt312 => ((cohousingref28_Bounds.f kj6 l0 l1).bind fun bt316 => (if t311 = true then ((flow_Valid.f l0).bind fun t320 => ((cohousingref28_Valid.f kj6 l0).bind fun t321 => (if (t320 == t321) = true then ((cohousingref28_Same.f kj6 bt312.1 bt316.1).bind fun t322 => (if t322 = true then (cohousinglaw28_FlowMatchesReference.j1 kj6 l0 l1 l2 a3 a4 (bt312.2 == bt316.2)) else (cohousinglaw28_FlowMatchesReference.j1 kj6 l0 l1 l2 a3 a4 false))) else (cohousinglaw28_FlowMatchesReference.j1 kj6 l0 l1 l2 a3 a4 false)))) else (cohousinglaw28_FlowMatchesReference.j1 kj6 l0 l1 l2 a3 a4 false)))) = some r := by rw [if_neg (show ¬ (false = true) by decide)] at H; exact H
    clear H
    have H := H1
    clear H1
    replace H := Option.bind_eq_some_iff.mp H
    obtain ⟨⟨t312, t313⟩, A110, H⟩ := H
    replace H : ((cohousingref28_Bounds.f kj6 l0 l1).bind fun bt316 => (if t311 = true then ((flow_Valid.f l0).bind fun t320 => ((cohousingref28_Valid.f kj6 l0).bind fun t321 => (if (t320 == t321) = true then ((cohousingref28_Same.f kj6 t312 bt316.1).bind fun t322 => (if t322 = true then (cohousinglaw28_FlowMatchesReference.j1 kj6 l0 l1 l2 a3 a4 (t313 == bt316.2)) else (cohousinglaw28_FlowMatchesReference.j1 kj6 l0 l1 l2 a3 a4 false))) else (cohousinglaw28_FlowMatchesReference.j1 kj6 l0 l1 l2 a3 a4 false)))) else (cohousinglaw28_FlowMatchesReference.j1 kj6 l0 l1 l2 a3 a4 false))) = some r := H
    have A11 := Aside0.mk A110
    clear A110
    replace H := Option.bind_eq_some_iff.mp H
    obtain ⟨⟨t316, t317⟩, A120, H⟩ := H
    replace H : (if t311 = true then ((flow_Valid.f l0).bind fun t320 => ((cohousingref28_Valid.f kj6 l0).bind fun t321 => (if (t320 == t321) = true then ((cohousingref28_Same.f kj6 t312 t316).bind fun t322 => (if t322 = true then (cohousinglaw28_FlowMatchesReference.j1 kj6 l0 l1 l2 a3 a4 (t313 == t317)) else (cohousinglaw28_FlowMatchesReference.j1 kj6 l0 l1 l2 a3 a4 false))) else (cohousinglaw28_FlowMatchesReference.j1 kj6 l0 l1 l2 a3 a4 false)))) else (cohousinglaw28_FlowMatchesReference.j1 kj6 l0 l1 l2 a3 a4 false)) = some r := H
    have A12 := Aside0.mk A120
    clear A120
    have HC13 := Aside0.mk H
    clear H
    go_upto_region 6 with (first | ((with_reducible refine gate_callee (f := 11) rfl ?_); refine goesL_ (some 33) rfl rfl Try.func11 (by kernel_rfl) rfl #[.slice A0 l0.length c0, .slice A1 l1.length c1] rfl (by (try simp only [List.map_toArray, List.map_cons, List.map_nil]); first | done | rfl | (simp only [List.length_drop, List.length_take]; rfl)) ?_; (with_reducible refine (flow_Bounds.calls _ _ l0 _ _ l1 t312 t313 _ ?side1 ?side2 ?side3 ?side4 A11.out).mono ?_); (case side1 => repeat (first | exact (Kd.C_below HR0.out HB.out) | (with_reducible refine Kd.C_alloc ?_ _) | (with_reducible refine Kd.C_drewN ?_ _) | (with_reducible refine Kd.C_drew ?_))); (case side2 => exact HC0.out); (case side3 => repeat (first | exact (Kd.C_below HR1.out HB.out) | (with_reducible refine Kd.C_alloc ?_ _) | (with_reducible refine Kd.C_drewN ?_ _) | (with_reducible refine Kd.C_drew ?_))); (case side4 => exact HC1.out); rintro e w14 ⟨v314, rfl, ho0, hb⟩; refine ⟨_, rfl, ?_⟩; have n0_ := Aside0.mk (Kd.R_lower ho0 (below_size (by repeat (first | (with_reducible first | exact HB.out | apply below_alloc | apply pw_below_drewN | apply below_drew1) | exact HB.out)))); have n1_ := Aside0.mk (below_step (by repeat (first | (with_reducible first | exact HB.out | apply below_alloc | apply pw_below_drewN | apply below_drew1) | exact HB.out)) hb); clear HB; have HO315 := n0_; have HB := n1_; clear n0_ n1_; (try clear hb); (try clear hb2); (try clear hk); (try clear hi); (try clear ho0)) | ((with_reducible refine gate_callee (f := 12) rfl ?_); refine goesL_ (some 39) rfl rfl Try.func12 (by kernel_rfl) rfl #[.slice A0 l0.length c0, .slice A1 l1.length c1] rfl (by (try simp only [List.map_toArray, List.map_cons, List.map_nil]); first | done | rfl | (simp only [List.length_drop, List.length_take]; rfl)) ?_; (with_reducible refine (cohousingref28_Bounds.calls kj6 _ _ l0 _ _ l1 t316 t317 _ ?side1 ?side2 ?side3 ?side4 A12.out).mono ?_); (case side1 => repeat (first | exact (Kd.C_below HR0.out HB.out) | (with_reducible refine Kd.C_alloc ?_ _) | (with_reducible refine Kd.C_drewN ?_ _) | (with_reducible refine Kd.C_drew ?_))); (case side2 => exact HC0.out); (case side3 => repeat (first | exact (Kd.C_below HR1.out HB.out) | (with_reducible refine Kd.C_alloc ?_ _) | (with_reducible refine Kd.C_drewN ?_ _) | (with_reducible refine Kd.C_drew ?_))); (case side4 => exact HC1.out); rintro e w15 ⟨v318, rfl, ho0, hb⟩; refine ⟨_, rfl, ?_⟩; have n0_ := Aside0.mk (Kd.R_elder' (by (with_reducible repeat (first | apply Kd.R_alloc | apply Kd.R_drewN | apply Kd.R_drew)); exact HO315.out) (Kd.R_base ho0) hb); have n1_ := Aside0.mk (Kd.R_lower (Kd.R_new' ho0 (Kd.R_lt (by (with_reducible repeat (first | apply Kd.R_alloc | apply Kd.R_drewN | apply Kd.R_drew)); exact HO315.out))) (below_size (by repeat (first | (with_reducible first | exact HB.out | apply below_alloc | apply pw_below_drewN | apply below_drew1) | exact HB.out)))); have n2_ := Aside0.mk (below_step (by repeat (first | (with_reducible first | exact HB.out | apply below_alloc | apply pw_below_drewN | apply below_drew1) | exact HB.out)) hb); clear HO315; clear HB; have HO315 := n0_; have HO319 := n1_; have HB := n2_; clear n0_ n1_ n2_; (try clear hb); (try clear hb2); (try clear hk); (try clear hi); (try clear ho0)))
    (try simp only [Act.put, sI_, s0_, sS_])
    go_cut [11] (fun v11 wc => ∃ (kq : Nat) (x11_12 : Bool), v11 = .bool x11_12 ∧ Aside0 (cohousinglaw28_FlowMatchesReference.j1 kq l0 l1 l2 a3 a4 x11_12 = some r) ∧ Aside0 (kq ≤ kj6) ∧ Aside0 (Below w.heap.size w wc))
    case first =>
     have H := HC13.out
     clear HC13
     by_cases c16 : t311 = true
     ·subst c16
      have H1 : ((flow_Valid.f l0).bind fun t320 => ((cohousingref28_Valid.f kj6 l0).bind fun t321 => (if (t320 == t321) = true then ((cohousingref28_Same.f kj6 t312 t316).bind fun t322 => (if t322 = true then (cohousinglaw28_FlowMatchesReference.j1 kj6 l0 l1 l2 a3 a4 (t313 == t317)) else (cohousinglaw28_FlowMatchesReference.j1 kj6 l0 l1 l2 a3 a4 false))) else (cohousinglaw28_FlowMatchesReference.j1 kj6 l0 l1 l2 a3 a4 false)))) = some r := by rw [if_pos rfl] at H; exact H
      clear H
      have H := H1
      clear H1
      replace H := Option.bind_eq_some_iff.mp H
      obtain ⟨t320, A170, H⟩ := H
      replace H : ((cohousingref28_Valid.f kj6 l0).bind fun t321 => (if (t320 == t321) = true then ((cohousingref28_Same.f kj6 t312 t316).bind fun t322 => (if t322 = true then (cohousinglaw28_FlowMatchesReference.j1 kj6 l0 l1 l2 a3 a4 (t313 == t317)) else (cohousinglaw28_FlowMatchesReference.j1 kj6 l0 l1 l2 a3 a4 false))) else (cohousinglaw28_FlowMatchesReference.j1 kj6 l0 l1 l2 a3 a4 false))) = some r := H
      have A17 := Aside0.mk A170
      clear A170
      replace H := Option.bind_eq_some_iff.mp H
      obtain ⟨t321, A180, H⟩ := H
      replace H : (if (t320 == t321) = true then ((cohousingref28_Same.f kj6 t312 t316).bind fun t322 => (if t322 = true then (cohousinglaw28_FlowMatchesReference.j1 kj6 l0 l1 l2 a3 a4 (t313 == t317)) else (cohousinglaw28_FlowMatchesReference.j1 kj6 l0 l1 l2 a3 a4 false))) else (cohousinglaw28_FlowMatchesReference.j1 kj6 l0 l1 l2 a3 a4 false)) = some r := H
      have A18 := Aside0.mk A180
      clear A180
      by_cases c19 : (t320 == t321) = true
      ·rw [if_pos c19] at H
       have c19b0 : (t320 == t321) = true := c19
       (try (have c19b1 : decide (t320 = t321) = true := by simpa using c19))
       (try (have c19b2 : (t320 == t321) = true := by simpa using c19))
       clear c19
       (first | rw [c19b0] | (simp only [i64_w, i32_w]; rw [c19b0]) | skip)
       replace H := Option.bind_eq_some_iff.mp H
       obtain ⟨t322, A200, H⟩ := H
       replace H : (if t322 = true then (cohousinglaw28_FlowMatchesReference.j1 kj6 l0 l1 l2 a3 a4 (t313 == t317)) else (cohousinglaw28_FlowMatchesReference.j1 kj6 l0 l1 l2 a3 a4 false)) = some r := H
       have A20 := Aside0.mk A200
       clear A200
       by_cases c21 : t322 = true
       ·subst c21
        have H1 : (cohousinglaw28_FlowMatchesReference.j1 kj6 l0 l1 l2 a3 a4 (t313 == t317)) = some r := by rw [if_pos rfl] at H; exact H
        clear H
        have H := H1
        clear H1
        have H' := Aside0.mk H
        clear H
        go_wp2_with (first | (go_at_call 13; (with_reducible refine (flow_Valid.calls _ _ l0 t320 _ ?side1 ?side2 A17.out).mono ?_); (case side1 => repeat (first | exact (Kd.C_below HR0.out HB.out) | (with_reducible refine Kd.C_alloc ?_ _) | (with_reducible refine Kd.C_drewN ?_ _) | (with_reducible refine Kd.C_drew ?_))); (case side2 => exact HC0.out); rintro e w22 ⟨rfl, hb⟩; have n0_ := Aside0.mk (Kd.R_below (by (with_reducible repeat (first | apply Kd.R_alloc | apply Kd.R_drewN | apply Kd.R_drew)); exact HO315.out) hb); have n1_ := Aside0.mk (Kd.R_below (by (with_reducible repeat (first | apply Kd.R_alloc | apply Kd.R_drewN | apply Kd.R_drew)); exact HO319.out) hb); have n2_ := Aside0.mk (below_step (by repeat (first | (with_reducible first | exact HB.out | apply below_alloc | apply pw_below_drewN | apply below_drew1) | exact HB.out)) hb); clear HO315; clear HO319; clear HB; have HO315 := n0_; have HO319 := n1_; have HB := n2_; clear n0_ n1_ n2_; (try clear hb); (try clear hb2); (try clear hk); (try clear hi)) | (go_at_call 14; (with_reducible refine (cohousingref28_Valid.calls kj6 _ _ l0 t321 _ ?side1 ?side2 A18.out).mono ?_); (case side1 => repeat (first | exact (Kd.C_below HR0.out HB.out) | (with_reducible refine Kd.C_alloc ?_ _) | (with_reducible refine Kd.C_drewN ?_ _) | (with_reducible refine Kd.C_drew ?_))); (case side2 => exact HC0.out); rintro e w23 ⟨rfl, hb⟩; have n0_ := Aside0.mk (Kd.R_below (by (with_reducible repeat (first | apply Kd.R_alloc | apply Kd.R_drewN | apply Kd.R_drew)); exact HO315.out) hb); have n1_ := Aside0.mk (Kd.R_below (by (with_reducible repeat (first | apply Kd.R_alloc | apply Kd.R_drewN | apply Kd.R_drew)); exact HO319.out) hb); have n2_ := Aside0.mk (below_step (by repeat (first | (with_reducible first | exact HB.out | apply below_alloc | apply pw_below_drewN | apply below_drew1) | exact HB.out)) hb); clear HO315; clear HO319; clear HB; have HO315 := n0_; have HO319 := n1_; have HB := n2_; clear n0_ n1_ n2_; (try clear hb); (try clear hb2); (try clear hk); (try clear hi); obtain ⟨Ao24, co24, eo24⟩ := Kd.R_slice HO315.out; subst eo24; obtain ⟨Ao25, co25, eo25⟩ := Kd.R_slice HO319.out; subst eo25) | (go_at_call 15; (with_reducible refine (cohousingref28_Same.calls kj6 _ _ t312 _ _ t316 true _ ?side1 ?side2 ?side3 ?side4 A20.out).mono ?_); (case side1 => repeat (first | exact (Kd.R_reads' HO315.out).2.2 | (with_reducible refine Kd.C_alloc ?_ _) | (with_reducible refine Kd.C_drewN ?_ _) | (with_reducible refine Kd.C_drew ?_))); (case side2 => exact (Kd.R_reads' HO315.out).2.1); (case side3 => repeat (first | exact (Kd.R_reads' HO319.out).2.2 | (with_reducible refine Kd.C_alloc ?_ _) | (with_reducible refine Kd.C_drewN ?_ _) | (with_reducible refine Kd.C_drew ?_))); (case side4 => exact (Kd.R_reads' HO319.out).2.1); rintro e w' ⟨rfl, ⟨nd, rfl⟩⟩))
        go_meet
        case rel => exact ⟨_, ((t313 == t317)), (by first | rfl | (simp; done) | (simp [*]; done)), H', ⟨by have := HJ6.out; first | omega | exact Nat.le_refl _⟩, ⟨by repeat (first | (with_reducible first | exact HB.out | apply below_alloc | apply pw_below_drewN | apply below_drew1) | exact HB.out)⟩⟩
       ·replace c21 := Bool.eq_false_iff.mpr c21
        subst c21
        have H1 : (cohousinglaw28_FlowMatchesReference.j1 kj6 l0 l1 l2 a3 a4 false) = some r := by rw [if_neg (show ¬ (false = true) by decide)] at H; exact H
        clear H
        have H := H1
        clear H1
        have H' := Aside0.mk H
        clear H
        go_wp2_with (first | (go_at_call 13; (with_reducible refine (flow_Valid.calls _ _ l0 t320 _ ?side1 ?side2 A17.out).mono ?_); (case side1 => repeat (first | exact (Kd.C_below HR0.out HB.out) | (with_reducible refine Kd.C_alloc ?_ _) | (with_reducible refine Kd.C_drewN ?_ _) | (with_reducible refine Kd.C_drew ?_))); (case side2 => exact HC0.out); rintro e w26 ⟨rfl, hb⟩; have n0_ := Aside0.mk (Kd.R_below (by (with_reducible repeat (first | apply Kd.R_alloc | apply Kd.R_drewN | apply Kd.R_drew)); exact HO315.out) hb); have n1_ := Aside0.mk (Kd.R_below (by (with_reducible repeat (first | apply Kd.R_alloc | apply Kd.R_drewN | apply Kd.R_drew)); exact HO319.out) hb); have n2_ := Aside0.mk (below_step (by repeat (first | (with_reducible first | exact HB.out | apply below_alloc | apply pw_below_drewN | apply below_drew1) | exact HB.out)) hb); clear HO315; clear HO319; clear HB; have HO315 := n0_; have HO319 := n1_; have HB := n2_; clear n0_ n1_ n2_; (try clear hb); (try clear hb2); (try clear hk); (try clear hi)) | (go_at_call 14; (with_reducible refine (cohousingref28_Valid.calls kj6 _ _ l0 t321 _ ?side1 ?side2 A18.out).mono ?_); (case side1 => repeat (first | exact (Kd.C_below HR0.out HB.out) | (with_reducible refine Kd.C_alloc ?_ _) | (with_reducible refine Kd.C_drewN ?_ _) | (with_reducible refine Kd.C_drew ?_))); (case side2 => exact HC0.out); rintro e w27 ⟨rfl, hb⟩; have n0_ := Aside0.mk (Kd.R_below (by (with_reducible repeat (first | apply Kd.R_alloc | apply Kd.R_drewN | apply Kd.R_drew)); exact HO315.out) hb); have n1_ := Aside0.mk (Kd.R_below (by (with_reducible repeat (first | apply Kd.R_alloc | apply Kd.R_drewN | apply Kd.R_drew)); exact HO319.out) hb); have n2_ := Aside0.mk (below_step (by repeat (first | (with_reducible first | exact HB.out | apply below_alloc | apply pw_below_drewN | apply below_drew1) | exact HB.out)) hb); clear HO315; clear HO319; clear HB; have HO315 := n0_; have HO319 := n1_; have HB := n2_; clear n0_ n1_ n2_; (try clear hb); (try clear hb2); (try clear hk); (try clear hi); obtain ⟨Ao28, co28, eo28⟩ := Kd.R_slice HO315.out; subst eo28; obtain ⟨Ao29, co29, eo29⟩ := Kd.R_slice HO319.out; subst eo29) | (go_at_call 15; (with_reducible refine (cohousingref28_Same.calls kj6 _ _ t312 _ _ t316 false _ ?side1 ?side2 ?side3 ?side4 A20.out).mono ?_); (case side1 => repeat (first | exact (Kd.R_reads' HO315.out).2.2 | (with_reducible refine Kd.C_alloc ?_ _) | (with_reducible refine Kd.C_drewN ?_ _) | (with_reducible refine Kd.C_drew ?_))); (case side2 => exact (Kd.R_reads' HO315.out).2.1); (case side3 => repeat (first | exact (Kd.R_reads' HO319.out).2.2 | (with_reducible refine Kd.C_alloc ?_ _) | (with_reducible refine Kd.C_drewN ?_ _) | (with_reducible refine Kd.C_drew ?_))); (case side4 => exact (Kd.R_reads' HO319.out).2.1); rintro e w' ⟨rfl, ⟨nd, rfl⟩⟩))
        go_meet
        case rel => exact ⟨_, (false), (by first | rfl | (simp; done) | (simp [*]; done)), H', ⟨by have := HJ6.out; first | omega | exact Nat.le_refl _⟩, ⟨by repeat (first | (with_reducible first | exact HB.out | apply below_alloc | apply pw_below_drewN | apply below_drew1) | exact HB.out)⟩⟩
      ·rw [if_neg c19] at H
       have c19b0 : (t320 == t321) = false := by simpa using c19
       (try (have c19b1 : decide (t320 = t321) = false := by simpa using c19))
       (try (have c19b2 : (t320 == t321) = false := by simpa using c19))
       (try (have c19b3 : ¬ (t320 = t321) := by simpa using c19))
       clear c19
       (first | rw [c19b0] | (simp only [i64_w, i32_w]; rw [c19b0]) | skip)
       have H' := Aside0.mk H
       clear H
       go_wp2_with (first | (go_at_call 13; (with_reducible refine (flow_Valid.calls _ _ l0 t320 _ ?side1 ?side2 A17.out).mono ?_); (case side1 => repeat (first | exact (Kd.C_below HR0.out HB.out) | (with_reducible refine Kd.C_alloc ?_ _) | (with_reducible refine Kd.C_drewN ?_ _) | (with_reducible refine Kd.C_drew ?_))); (case side2 => exact HC0.out); rintro e w30 ⟨rfl, hb⟩; have n0_ := Aside0.mk (Kd.R_below (by (with_reducible repeat (first | apply Kd.R_alloc | apply Kd.R_drewN | apply Kd.R_drew)); exact HO315.out) hb); have n1_ := Aside0.mk (Kd.R_below (by (with_reducible repeat (first | apply Kd.R_alloc | apply Kd.R_drewN | apply Kd.R_drew)); exact HO319.out) hb); have n2_ := Aside0.mk (below_step (by repeat (first | (with_reducible first | exact HB.out | apply below_alloc | apply pw_below_drewN | apply below_drew1) | exact HB.out)) hb); clear HO315; clear HO319; clear HB; have HO315 := n0_; have HO319 := n1_; have HB := n2_; clear n0_ n1_ n2_; (try clear hb); (try clear hb2); (try clear hk); (try clear hi)) | (go_at_call 14; (with_reducible refine (cohousingref28_Valid.calls kj6 _ _ l0 t321 _ ?side1 ?side2 A18.out).mono ?_); (case side1 => repeat (first | exact (Kd.C_below HR0.out HB.out) | (with_reducible refine Kd.C_alloc ?_ _) | (with_reducible refine Kd.C_drewN ?_ _) | (with_reducible refine Kd.C_drew ?_))); (case side2 => exact HC0.out); rintro e w31 ⟨rfl, hb⟩; have n0_ := Aside0.mk (Kd.R_below (by (with_reducible repeat (first | apply Kd.R_alloc | apply Kd.R_drewN | apply Kd.R_drew)); exact HO315.out) hb); have n1_ := Aside0.mk (Kd.R_below (by (with_reducible repeat (first | apply Kd.R_alloc | apply Kd.R_drewN | apply Kd.R_drew)); exact HO319.out) hb); have n2_ := Aside0.mk (below_step (by repeat (first | (with_reducible first | exact HB.out | apply below_alloc | apply pw_below_drewN | apply below_drew1) | exact HB.out)) hb); clear HO315; clear HO319; clear HB; have HO315 := n0_; have HO319 := n1_; have HB := n2_; clear n0_ n1_ n2_; (try clear hb); (try clear hb2); (try clear hk); (try clear hi)))
       go_meet
       case rel => exact ⟨_, (false), (by first | rfl | (simp; done) | (simp [*]; done)), H', ⟨by have := HJ6.out; first | omega | exact Nat.le_refl _⟩, ⟨by repeat (first | (with_reducible first | exact HB.out | apply below_alloc | apply pw_below_drewN | apply below_drew1) | exact HB.out)⟩⟩
     ·replace c16 := Bool.eq_false_iff.mpr c16
      subst c16
      have H1 : (cohousinglaw28_FlowMatchesReference.j1 kj6 l0 l1 l2 a3 a4 false) = some r := by rw [if_neg (show ¬ (false = true) by decide)] at H; exact H
      clear H
      have H := H1
      clear H1
      have H' := Aside0.mk H
      clear H
      go_wp2
      go_meet
      case rel => exact ⟨_, (false), (by first | rfl | (simp; done) | (simp [*]; done)), H', ⟨by have := HJ6.out; first | omega | exact Nat.le_refl _⟩, ⟨by repeat (first | (with_reducible first | exact HB.out | apply below_alloc | apply pw_below_drewN | apply below_drew1) | exact HB.out)⟩⟩
    case rest =>
     clear HC13
     try clear c1
     try clear c2
     try clear p2
     try clear c3
     try clear c9
     try clear c9b0
     try clear c9b1
     try clear c10
     try clear c11
     try clear c12
     try clear c16
     try clear c19
     try clear c19b0
     try clear c19b1
     try clear c19b2
     try clear c21
     try clear p2
     obtain ⟨kq, x11_12, rfl, HA, HJ12, HB⟩ := hcut
     cases kq with
     | zero => exact absurd HA.out (by simp [cohousinglaw28_FlowMatchesReference.j1])
     | succ kj12 =>
      have H := HA.out
      clear HA
      simp only [cohousinglaw28_FlowMatchesReference.j1] at H
      replace H := Option.bind_eq_some_iff.mp H
      obtain ⟨⟨t323, t324⟩, A320, H⟩ := H
      replace H : ((cohousingref28_Consistent.f kj12 l0 l1 l2).bind fun bt325 => (if x11_12 = true then (if (t323 == bt325.1) = true then ((flow_State.f l0 l1 a3 a4).bind fun bt327 => ((cohousingref28_State.f kj12 l0 l1 a3 a4).bind fun bt331 => (if t324 = bt325.2 then ((cohousingref02_Same.f kj12 bt327.1 bt331.1).bind fun t335 => (if t335 = true then (some (bt327.2 == bt331.2)) else (some false))) else (some false)))) else ((flow_State.f l0 l1 a3 a4).bind fun bt336 => ((cohousingref28_State.f kj12 l0 l1 a3 a4).bind fun bt340 => (some false)))) else ((flow_State.f l0 l1 a3 a4).bind fun bt344 => ((cohousingref28_State.f kj12 l0 l1 a3 a4).bind fun bt348 => (some false))))) = some r := H
      have A32 := Aside0.mk A320
      clear A320
      replace H := Option.bind_eq_some_iff.mp H
      obtain ⟨⟨t325, t326⟩, A330, H⟩ := H
      replace H : (if x11_12 = true then (if (t323 == t325) = true then ((flow_State.f l0 l1 a3 a4).bind fun bt327 => ((cohousingref28_State.f kj12 l0 l1 a3 a4).bind fun bt331 => (if t324 = t326 then ((cohousingref02_Same.f kj12 bt327.1 bt331.1).bind fun t335 => (if t335 = true then (some (bt327.2 == bt331.2)) else (some false))) else (some false)))) else ((flow_State.f l0 l1 a3 a4).bind fun bt336 => ((cohousingref28_State.f kj12 l0 l1 a3 a4).bind fun bt340 => (some false)))) else ((flow_State.f l0 l1 a3 a4).bind fun bt344 => ((cohousingref28_State.f kj12 l0 l1 a3 a4).bind fun bt348 => (some false)))) = some r := H
      have A33 := Aside0.mk A330
      clear A330
      by_cases c34 : x11_12 = true
      ·subst c34
       have H1 : (if (t323 == t325) = true then ((flow_State.f l0 l1 a3 a4).bind fun bt327 => ((cohousingref28_State.f kj12 l0 l1 a3 a4).bind fun bt331 => (if t324 = t326 then ((cohousingref02_Same.f kj12 bt327.1 bt331.1).bind fun t335 => (if t335 = true then (some (bt327.2 == bt331.2)) else (some false))) else (some false)))) else ((flow_State.f l0 l1 a3 a4).bind fun bt336 => ((cohousingref28_State.f kj12 l0 l1 a3 a4).bind fun bt340 => (some false)))) = some r := by rw [if_pos rfl] at H; exact H
       clear H
       have H := H1
       clear H1
       by_cases c35 : (t323 == t325) = true
       ·rw [if_pos c35] at H
        have c35b0 : (t323 == t325) = true := c35
        (try (have c35b1 : decide (t323 = t325) = true := by simpa using c35))
        (try (have c35b2 : (t323 == t325) = true := by simpa using c35))
        clear c35
        replace H := Option.bind_eq_some_iff.mp H
        obtain ⟨⟨t327, t328⟩, A360, H⟩ := H
        replace H : ((cohousingref28_State.f kj12 l0 l1 a3 a4).bind fun bt331 => (if t324 = t326 then ((cohousingref02_Same.f kj12 t327 bt331.1).bind fun t335 => (if t335 = true then (some (t328 == bt331.2)) else (some false))) else (some false))) = some r := H
        have A36 := Aside0.mk A360
        clear A360
        replace H := Option.bind_eq_some_iff.mp H
        obtain ⟨⟨t331, t332⟩, A370, H⟩ := H
        replace H : (if t324 = t326 then ((cohousingref02_Same.f kj12 t327 t331).bind fun t335 => (if t335 = true then (some (t328 == t332)) else (some false))) else (some false)) = some r := H
        have A37 := Aside0.mk A370
        clear A370
        by_cases c38 : t324 = t326
        ·rw [if_pos c38] at H
         have c38b0 : (t324 == t326) = true := beq_iff_eq.mpr c38
         have c38b1 : (t324 != t326) = false := bne_eq_false_iff_eq.mpr c38
         clear c38
         replace H := Option.bind_eq_some_iff.mp H
         obtain ⟨t335, A390, H⟩ := H
         replace H : (if t335 = true then (some (t328 == t332)) else (some false)) = some r := H
         have A39 := Aside0.mk A390
         clear A390
         by_cases c40 : t335 = true
         ·subst c40
          have H1 : (some (t328 == t332)) = some r := by rw [if_pos rfl] at H; exact H
          clear H
          have H := H1
          clear H1
          obtain rfl := Option.some.inj H
          go_wp2_with (first | ((with_reducible refine gate_callee (f := 16) rfl ?_); refine goesL_ (some 64) rfl rfl Try.func16 (by kernel_rfl) rfl #[.slice A0 l0.length c0, .slice A1 l1.length c1, .slice A2 l2.length c2] rfl (by (try simp only [List.map_toArray, List.map_cons, List.map_nil]); first | done | rfl | (simp only [List.length_drop, List.length_take]; rfl)) ?_; (with_reducible refine (flow_Consistent.calls _ _ l0 _ _ l1 _ _ l2 t323 t324 _ ?side1 ?side2 ?side3 ?side4 ?side5 ?side6 A32.out).mono ?_); (case side1 => repeat (first | exact (Kd.C_below HR0.out HB.out) | (with_reducible refine Kd.C_alloc ?_ _) | (with_reducible refine Kd.C_drewN ?_ _) | (with_reducible refine Kd.C_drew ?_))); (case side2 => exact HC0.out); (case side3 => repeat (first | exact (Kd.C_below HR1.out HB.out) | (with_reducible refine Kd.C_alloc ?_ _) | (with_reducible refine Kd.C_drewN ?_ _) | (with_reducible refine Kd.C_drew ?_))); (case side4 => exact HC1.out); (case side5 => repeat (first | exact (Kd.C_below HR2.out HB.out) | (with_reducible refine Kd.C_alloc ?_ _) | (with_reducible refine Kd.C_drewN ?_ _) | (with_reducible refine Kd.C_drew ?_))); (case side6 => exact HC2.out); rintro e w41 ⟨rfl, hb⟩; refine ⟨_, rfl, ?_⟩; have n0_ := Aside0.mk (below_step (by repeat (first | (with_reducible first | exact HB.out | apply below_alloc | apply pw_below_drewN | apply below_drew1) | exact HB.out)) hb); clear HB; have HB := n0_; clear n0_; (try clear hb); (try clear hb2); (try clear hk); (try clear hi)) | ((with_reducible refine gate_callee (f := 17) rfl ?_); refine goesL_ (some 71) rfl rfl Try.func17 (by kernel_rfl) rfl #[.slice A0 l0.length c0, .slice A1 l1.length c1, .slice A2 l2.length c2] rfl (by (try simp only [List.map_toArray, List.map_cons, List.map_nil]); first | done | rfl | (simp only [List.length_drop, List.length_take]; rfl)) ?_; (with_reducible refine (cohousingref28_Consistent.calls kj12 _ _ l0 _ _ l1 _ _ l2 t325 t326 _ ?side1 ?side2 ?side3 ?side4 ?side5 ?side6 A33.out).mono ?_); (case side1 => repeat (first | exact (Kd.C_below HR0.out HB.out) | (with_reducible refine Kd.C_alloc ?_ _) | (with_reducible refine Kd.C_drewN ?_ _) | (with_reducible refine Kd.C_drew ?_))); (case side2 => exact HC0.out); (case side3 => repeat (first | exact (Kd.C_below HR1.out HB.out) | (with_reducible refine Kd.C_alloc ?_ _) | (with_reducible refine Kd.C_drewN ?_ _) | (with_reducible refine Kd.C_drew ?_))); (case side4 => exact HC1.out); (case side5 => repeat (first | exact (Kd.C_below HR2.out HB.out) | (with_reducible refine Kd.C_alloc ?_ _) | (with_reducible refine Kd.C_drewN ?_ _) | (with_reducible refine Kd.C_drew ?_))); (case side6 => exact HC2.out); rintro e w42 ⟨rfl, hb⟩; refine ⟨_, rfl, ?_⟩; have n0_ := Aside0.mk (below_step (by repeat (first | (with_reducible first | exact HB.out | apply below_alloc | apply pw_below_drewN | apply below_drew1) | exact HB.out)) hb); clear HB; have HB := n0_; clear n0_; (try clear hb); (try clear hb2); (try clear hk); (try clear hi)) | ((with_reducible refine gate_callee (f := 18) rfl ?_); refine goesL_ (some 90) rfl rfl Try.func18 (by kernel_rfl) rfl #[.slice A0 l0.length c0, .slice A1 l1.length c1, .int .i64 a3, .int .i64 a4] rfl (by (try simp only [List.map_toArray, List.map_cons, List.map_nil]); first | done | rfl | (simp only [List.length_drop, List.length_take]; rfl)) ?_; (with_reducible refine (flow_State.calls _ _ l0 _ _ l1 a3 a4 t327 t328 _ ?side1 ?side2 ?side3 ?side4 A36.out).mono ?_); (case side1 => repeat (first | exact (Kd.C_below HR0.out HB.out) | (with_reducible refine Kd.C_alloc ?_ _) | (with_reducible refine Kd.C_drewN ?_ _) | (with_reducible refine Kd.C_drew ?_))); (case side2 => exact HC0.out); (case side3 => repeat (first | exact (Kd.C_below HR1.out HB.out) | (with_reducible refine Kd.C_alloc ?_ _) | (with_reducible refine Kd.C_drewN ?_ _) | (with_reducible refine Kd.C_drew ?_))); (case side4 => exact HC1.out); rintro e w43 ⟨v329, rfl, ho0, hb⟩; refine ⟨_, rfl, ?_⟩; have n0_ := Aside0.mk (Kd.R_lower ho0 (below_size (by repeat (first | (with_reducible first | exact HB.out | apply below_alloc | apply pw_below_drewN | apply below_drew1) | exact HB.out)))); have n1_ := Aside0.mk (below_step (by repeat (first | (with_reducible first | exact HB.out | apply below_alloc | apply pw_below_drewN | apply below_drew1) | exact HB.out)) hb); clear HB; have HO330 := n0_; have HB := n1_; clear n0_ n1_; (try clear hb); (try clear hb2); (try clear hk); (try clear hi); (try clear ho0)) | ((with_reducible refine gate_callee (f := 19) rfl ?_); refine goesL_ (some 98) rfl rfl Try.func19 (by kernel_rfl) rfl #[.slice A0 l0.length c0, .slice A1 l1.length c1, .int .i64 a3, .int .i64 a4] rfl (by (try simp only [List.map_toArray, List.map_cons, List.map_nil]); first | done | rfl | (simp only [List.length_drop, List.length_take]; rfl)) ?_; (with_reducible refine (cohousingref28_State.calls kj12 _ _ l0 _ _ l1 a3 a4 t331 t332 _ ?side1 ?side2 ?side3 ?side4 A37.out).mono ?_); (case side1 => repeat (first | exact (Kd.C_below HR0.out HB.out) | (with_reducible refine Kd.C_alloc ?_ _) | (with_reducible refine Kd.C_drewN ?_ _) | (with_reducible refine Kd.C_drew ?_))); (case side2 => exact HC0.out); (case side3 => repeat (first | exact (Kd.C_below HR1.out HB.out) | (with_reducible refine Kd.C_alloc ?_ _) | (with_reducible refine Kd.C_drewN ?_ _) | (with_reducible refine Kd.C_drew ?_))); (case side4 => exact HC1.out); rintro e w44 ⟨v333, rfl, ho0, hb⟩; refine ⟨_, rfl, ?_⟩; have n0_ := Aside0.mk (Kd.R_elder' (by (with_reducible repeat (first | apply Kd.R_alloc | apply Kd.R_drewN | apply Kd.R_drew)); exact HO330.out) (Kd.R_base ho0) hb); have n1_ := Aside0.mk (Kd.R_lower (Kd.R_new' ho0 (Kd.R_lt (by (with_reducible repeat (first | apply Kd.R_alloc | apply Kd.R_drewN | apply Kd.R_drew)); exact HO330.out))) (below_size (by repeat (first | (with_reducible first | exact HB.out | apply below_alloc | apply pw_below_drewN | apply below_drew1) | exact HB.out)))); have n2_ := Aside0.mk (below_step (by repeat (first | (with_reducible first | exact HB.out | apply below_alloc | apply pw_below_drewN | apply below_drew1) | exact HB.out)) hb); clear HO330; clear HB; have HO330 := n0_; have HO334 := n1_; have HB := n2_; clear n0_ n1_ n2_; (try clear hb); (try clear hb2); (try clear hk); (try clear hi); (try clear ho0); obtain ⟨Ao45, co45, eo45⟩ := Kd.R_slice HO330.out; subst eo45; obtain ⟨Ao46, co46, eo46⟩ := Kd.R_slice HO334.out; subst eo46) | (go_at_call 20; (with_reducible refine (cohousingref02_Same.calls kj12 _ _ t327 _ _ t331 true _ ?side1 ?side2 ?side3 ?side4 A39.out).mono ?_); (case side1 => repeat (first | exact (Kd.R_reads' HO330.out).2.2 | (with_reducible refine Kd.C_alloc ?_ _) | (with_reducible refine Kd.C_drewN ?_ _) | (with_reducible refine Kd.C_drew ?_))); (case side2 => exact (Kd.R_reads' HO330.out).2.1); (case side3 => repeat (first | exact (Kd.R_reads' HO334.out).2.2 | (with_reducible refine Kd.C_alloc ?_ _) | (with_reducible refine Kd.C_drewN ?_ _) | (with_reducible refine Kd.C_drew ?_))); (case side4 => exact (Kd.R_reads' HO334.out).2.1); rintro e w' ⟨rfl, ⟨nd, rfl⟩⟩))
          go_ret
          exact ⟨by first | rfl | (simp [errW_none, errW_some] <;> rfl) | (simp [*, errW_none, errW_some] <;> rfl), by repeat (first | (with_reducible first | exact HB.out | apply below_alloc | apply pw_below_drewN | apply below_drew1) | exact HB.out)⟩
         ·replace c40 := Bool.eq_false_iff.mpr c40
          subst c40
          have H1 : (some false) = some r := by rw [if_neg (show ¬ (false = true) by decide)] at H; exact H
          clear H
          have H := H1
          clear H1
          obtain rfl := Option.some.inj H
          go_wp2_with (first | ((with_reducible refine gate_callee (f := 16) rfl ?_); refine goesL_ (some 64) rfl rfl Try.func16 (by kernel_rfl) rfl #[.slice A0 l0.length c0, .slice A1 l1.length c1, .slice A2 l2.length c2] rfl (by (try simp only [List.map_toArray, List.map_cons, List.map_nil]); first | done | rfl | (simp only [List.length_drop, List.length_take]; rfl)) ?_; (with_reducible refine (flow_Consistent.calls _ _ l0 _ _ l1 _ _ l2 t323 t324 _ ?side1 ?side2 ?side3 ?side4 ?side5 ?side6 A32.out).mono ?_); (case side1 => repeat (first | exact (Kd.C_below HR0.out HB.out) | (with_reducible refine Kd.C_alloc ?_ _) | (with_reducible refine Kd.C_drewN ?_ _) | (with_reducible refine Kd.C_drew ?_))); (case side2 => exact HC0.out); (case side3 => repeat (first | exact (Kd.C_below HR1.out HB.out) | (with_reducible refine Kd.C_alloc ?_ _) | (with_reducible refine Kd.C_drewN ?_ _) | (with_reducible refine Kd.C_drew ?_))); (case side4 => exact HC1.out); (case side5 => repeat (first | exact (Kd.C_below HR2.out HB.out) | (with_reducible refine Kd.C_alloc ?_ _) | (with_reducible refine Kd.C_drewN ?_ _) | (with_reducible refine Kd.C_drew ?_))); (case side6 => exact HC2.out); rintro e w47 ⟨rfl, hb⟩; refine ⟨_, rfl, ?_⟩; have n0_ := Aside0.mk (below_step (by repeat (first | (with_reducible first | exact HB.out | apply below_alloc | apply pw_below_drewN | apply below_drew1) | exact HB.out)) hb); clear HB; have HB := n0_; clear n0_; (try clear hb); (try clear hb2); (try clear hk); (try clear hi)) | ((with_reducible refine gate_callee (f := 17) rfl ?_); refine goesL_ (some 71) rfl rfl Try.func17 (by kernel_rfl) rfl #[.slice A0 l0.length c0, .slice A1 l1.length c1, .slice A2 l2.length c2] rfl (by (try simp only [List.map_toArray, List.map_cons, List.map_nil]); first | done | rfl | (simp only [List.length_drop, List.length_take]; rfl)) ?_; (with_reducible refine (cohousingref28_Consistent.calls kj12 _ _ l0 _ _ l1 _ _ l2 t325 t326 _ ?side1 ?side2 ?side3 ?side4 ?side5 ?side6 A33.out).mono ?_); (case side1 => repeat (first | exact (Kd.C_below HR0.out HB.out) | (with_reducible refine Kd.C_alloc ?_ _) | (with_reducible refine Kd.C_drewN ?_ _) | (with_reducible refine Kd.C_drew ?_))); (case side2 => exact HC0.out); (case side3 => repeat (first | exact (Kd.C_below HR1.out HB.out) | (with_reducible refine Kd.C_alloc ?_ _) | (with_reducible refine Kd.C_drewN ?_ _) | (with_reducible refine Kd.C_drew ?_))); (case side4 => exact HC1.out); (case side5 => repeat (first | exact (Kd.C_below HR2.out HB.out) | (with_reducible refine Kd.C_alloc ?_ _) | (with_reducible refine Kd.C_drewN ?_ _) | (with_reducible refine Kd.C_drew ?_))); (case side6 => exact HC2.out); rintro e w48 ⟨rfl, hb⟩; refine ⟨_, rfl, ?_⟩; have n0_ := Aside0.mk (below_step (by repeat (first | (with_reducible first | exact HB.out | apply below_alloc | apply pw_below_drewN | apply below_drew1) | exact HB.out)) hb); clear HB; have HB := n0_; clear n0_; (try clear hb); (try clear hb2); (try clear hk); (try clear hi)) | ((with_reducible refine gate_callee (f := 18) rfl ?_); refine goesL_ (some 90) rfl rfl Try.func18 (by kernel_rfl) rfl #[.slice A0 l0.length c0, .slice A1 l1.length c1, .int .i64 a3, .int .i64 a4] rfl (by (try simp only [List.map_toArray, List.map_cons, List.map_nil]); first | done | rfl | (simp only [List.length_drop, List.length_take]; rfl)) ?_; (with_reducible refine (flow_State.calls _ _ l0 _ _ l1 a3 a4 t327 t328 _ ?side1 ?side2 ?side3 ?side4 A36.out).mono ?_); (case side1 => repeat (first | exact (Kd.C_below HR0.out HB.out) | (with_reducible refine Kd.C_alloc ?_ _) | (with_reducible refine Kd.C_drewN ?_ _) | (with_reducible refine Kd.C_drew ?_))); (case side2 => exact HC0.out); (case side3 => repeat (first | exact (Kd.C_below HR1.out HB.out) | (with_reducible refine Kd.C_alloc ?_ _) | (with_reducible refine Kd.C_drewN ?_ _) | (with_reducible refine Kd.C_drew ?_))); (case side4 => exact HC1.out); rintro e w49 ⟨v329, rfl, ho0, hb⟩; refine ⟨_, rfl, ?_⟩; have n0_ := Aside0.mk (Kd.R_lower ho0 (below_size (by repeat (first | (with_reducible first | exact HB.out | apply below_alloc | apply pw_below_drewN | apply below_drew1) | exact HB.out)))); have n1_ := Aside0.mk (below_step (by repeat (first | (with_reducible first | exact HB.out | apply below_alloc | apply pw_below_drewN | apply below_drew1) | exact HB.out)) hb); clear HB; have HO330 := n0_; have HB := n1_; clear n0_ n1_; (try clear hb); (try clear hb2); (try clear hk); (try clear hi); (try clear ho0)) | ((with_reducible refine gate_callee (f := 19) rfl ?_); refine goesL_ (some 98) rfl rfl Try.func19 (by kernel_rfl) rfl #[.slice A0 l0.length c0, .slice A1 l1.length c1, .int .i64 a3, .int .i64 a4] rfl (by (try simp only [List.map_toArray, List.map_cons, List.map_nil]); first | done | rfl | (simp only [List.length_drop, List.length_take]; rfl)) ?_; (with_reducible refine (cohousingref28_State.calls kj12 _ _ l0 _ _ l1 a3 a4 t331 t332 _ ?side1 ?side2 ?side3 ?side4 A37.out).mono ?_); (case side1 => repeat (first | exact (Kd.C_below HR0.out HB.out) | (with_reducible refine Kd.C_alloc ?_ _) | (with_reducible refine Kd.C_drewN ?_ _) | (with_reducible refine Kd.C_drew ?_))); (case side2 => exact HC0.out); (case side3 => repeat (first | exact (Kd.C_below HR1.out HB.out) | (with_reducible refine Kd.C_alloc ?_ _) | (with_reducible refine Kd.C_drewN ?_ _) | (with_reducible refine Kd.C_drew ?_))); (case side4 => exact HC1.out); rintro e w50 ⟨v333, rfl, ho0, hb⟩; refine ⟨_, rfl, ?_⟩; have n0_ := Aside0.mk (Kd.R_elder' (by (with_reducible repeat (first | apply Kd.R_alloc | apply Kd.R_drewN | apply Kd.R_drew)); exact HO330.out) (Kd.R_base ho0) hb); have n1_ := Aside0.mk (Kd.R_lower (Kd.R_new' ho0 (Kd.R_lt (by (with_reducible repeat (first | apply Kd.R_alloc | apply Kd.R_drewN | apply Kd.R_drew)); exact HO330.out))) (below_size (by repeat (first | (with_reducible first | exact HB.out | apply below_alloc | apply pw_below_drewN | apply below_drew1) | exact HB.out)))); have n2_ := Aside0.mk (below_step (by repeat (first | (with_reducible first | exact HB.out | apply below_alloc | apply pw_below_drewN | apply below_drew1) | exact HB.out)) hb); clear HO330; clear HB; have HO330 := n0_; have HO334 := n1_; have HB := n2_; clear n0_ n1_ n2_; (try clear hb); (try clear hb2); (try clear hk); (try clear hi); (try clear ho0); obtain ⟨Ao51, co51, eo51⟩ := Kd.R_slice HO330.out; subst eo51; obtain ⟨Ao52, co52, eo52⟩ := Kd.R_slice HO334.out; subst eo52) | (go_at_call 20; (with_reducible refine (cohousingref02_Same.calls kj12 _ _ t327 _ _ t331 false _ ?side1 ?side2 ?side3 ?side4 A39.out).mono ?_); (case side1 => repeat (first | exact (Kd.R_reads' HO330.out).2.2 | (with_reducible refine Kd.C_alloc ?_ _) | (with_reducible refine Kd.C_drewN ?_ _) | (with_reducible refine Kd.C_drew ?_))); (case side2 => exact (Kd.R_reads' HO330.out).2.1); (case side3 => repeat (first | exact (Kd.R_reads' HO334.out).2.2 | (with_reducible refine Kd.C_alloc ?_ _) | (with_reducible refine Kd.C_drewN ?_ _) | (with_reducible refine Kd.C_drew ?_))); (case side4 => exact (Kd.R_reads' HO334.out).2.1); rintro e w' ⟨rfl, ⟨nd, rfl⟩⟩))
          go_ret
          exact ⟨by first | rfl | (simp [errW_none, errW_some] <;> rfl) | (simp [*, errW_none, errW_some] <;> rfl), by repeat (first | (with_reducible first | exact HB.out | apply below_alloc | apply pw_below_drewN | apply below_drew1) | exact HB.out)⟩
        ·rw [if_neg c38] at H
         have c38b0 : (t324 == t326) = false := beq_eq_false_iff_ne.mpr c38
         have c38b1 : (t324 != t326) = true := bne_iff_ne.mpr c38
         obtain rfl := Option.some.inj H
         go_wp2_with (first | ((with_reducible refine gate_callee (f := 16) rfl ?_); refine goesL_ (some 64) rfl rfl Try.func16 (by kernel_rfl) rfl #[.slice A0 l0.length c0, .slice A1 l1.length c1, .slice A2 l2.length c2] rfl (by (try simp only [List.map_toArray, List.map_cons, List.map_nil]); first | done | rfl | (simp only [List.length_drop, List.length_take]; rfl)) ?_; (with_reducible refine (flow_Consistent.calls _ _ l0 _ _ l1 _ _ l2 t323 t324 _ ?side1 ?side2 ?side3 ?side4 ?side5 ?side6 A32.out).mono ?_); (case side1 => repeat (first | exact (Kd.C_below HR0.out HB.out) | (with_reducible refine Kd.C_alloc ?_ _) | (with_reducible refine Kd.C_drewN ?_ _) | (with_reducible refine Kd.C_drew ?_))); (case side2 => exact HC0.out); (case side3 => repeat (first | exact (Kd.C_below HR1.out HB.out) | (with_reducible refine Kd.C_alloc ?_ _) | (with_reducible refine Kd.C_drewN ?_ _) | (with_reducible refine Kd.C_drew ?_))); (case side4 => exact HC1.out); (case side5 => repeat (first | exact (Kd.C_below HR2.out HB.out) | (with_reducible refine Kd.C_alloc ?_ _) | (with_reducible refine Kd.C_drewN ?_ _) | (with_reducible refine Kd.C_drew ?_))); (case side6 => exact HC2.out); rintro e w53 ⟨rfl, hb⟩; refine ⟨_, rfl, ?_⟩; have n0_ := Aside0.mk (below_step (by repeat (first | (with_reducible first | exact HB.out | apply below_alloc | apply pw_below_drewN | apply below_drew1) | exact HB.out)) hb); clear HB; have HB := n0_; clear n0_; (try clear hb); (try clear hb2); (try clear hk); (try clear hi)) | ((with_reducible refine gate_callee (f := 17) rfl ?_); refine goesL_ (some 71) rfl rfl Try.func17 (by kernel_rfl) rfl #[.slice A0 l0.length c0, .slice A1 l1.length c1, .slice A2 l2.length c2] rfl (by (try simp only [List.map_toArray, List.map_cons, List.map_nil]); first | done | rfl | (simp only [List.length_drop, List.length_take]; rfl)) ?_; (with_reducible refine (cohousingref28_Consistent.calls kj12 _ _ l0 _ _ l1 _ _ l2 t325 t326 _ ?side1 ?side2 ?side3 ?side4 ?side5 ?side6 A33.out).mono ?_); (case side1 => repeat (first | exact (Kd.C_below HR0.out HB.out) | (with_reducible refine Kd.C_alloc ?_ _) | (with_reducible refine Kd.C_drewN ?_ _) | (with_reducible refine Kd.C_drew ?_))); (case side2 => exact HC0.out); (case side3 => repeat (first | exact (Kd.C_below HR1.out HB.out) | (with_reducible refine Kd.C_alloc ?_ _) | (with_reducible refine Kd.C_drewN ?_ _) | (with_reducible refine Kd.C_drew ?_))); (case side4 => exact HC1.out); (case side5 => repeat (first | exact (Kd.C_below HR2.out HB.out) | (with_reducible refine Kd.C_alloc ?_ _) | (with_reducible refine Kd.C_drewN ?_ _) | (with_reducible refine Kd.C_drew ?_))); (case side6 => exact HC2.out); rintro e w54 ⟨rfl, hb⟩; refine ⟨_, rfl, ?_⟩; have n0_ := Aside0.mk (below_step (by repeat (first | (with_reducible first | exact HB.out | apply below_alloc | apply pw_below_drewN | apply below_drew1) | exact HB.out)) hb); clear HB; have HB := n0_; clear n0_; (try clear hb); (try clear hb2); (try clear hk); (try clear hi)) | ((with_reducible refine gate_callee (f := 18) rfl ?_); refine goesL_ (some 90) rfl rfl Try.func18 (by kernel_rfl) rfl #[.slice A0 l0.length c0, .slice A1 l1.length c1, .int .i64 a3, .int .i64 a4] rfl (by (try simp only [List.map_toArray, List.map_cons, List.map_nil]); first | done | rfl | (simp only [List.length_drop, List.length_take]; rfl)) ?_; (with_reducible refine (flow_State.calls _ _ l0 _ _ l1 a3 a4 t327 t328 _ ?side1 ?side2 ?side3 ?side4 A36.out).mono ?_); (case side1 => repeat (first | exact (Kd.C_below HR0.out HB.out) | (with_reducible refine Kd.C_alloc ?_ _) | (with_reducible refine Kd.C_drewN ?_ _) | (with_reducible refine Kd.C_drew ?_))); (case side2 => exact HC0.out); (case side3 => repeat (first | exact (Kd.C_below HR1.out HB.out) | (with_reducible refine Kd.C_alloc ?_ _) | (with_reducible refine Kd.C_drewN ?_ _) | (with_reducible refine Kd.C_drew ?_))); (case side4 => exact HC1.out); rintro e w55 ⟨v329, rfl, ho0, hb⟩; refine ⟨_, rfl, ?_⟩; have n0_ := Aside0.mk (Kd.R_lower ho0 (below_size (by repeat (first | (with_reducible first | exact HB.out | apply below_alloc | apply pw_below_drewN | apply below_drew1) | exact HB.out)))); have n1_ := Aside0.mk (below_step (by repeat (first | (with_reducible first | exact HB.out | apply below_alloc | apply pw_below_drewN | apply below_drew1) | exact HB.out)) hb); clear HB; have HO330 := n0_; have HB := n1_; clear n0_ n1_; (try clear hb); (try clear hb2); (try clear hk); (try clear hi); (try clear ho0)) | ((with_reducible refine gate_callee (f := 19) rfl ?_); refine goesL_ (some 98) rfl rfl Try.func19 (by kernel_rfl) rfl #[.slice A0 l0.length c0, .slice A1 l1.length c1, .int .i64 a3, .int .i64 a4] rfl (by (try simp only [List.map_toArray, List.map_cons, List.map_nil]); first | done | rfl | (simp only [List.length_drop, List.length_take]; rfl)) ?_; (with_reducible refine (cohousingref28_State.calls kj12 _ _ l0 _ _ l1 a3 a4 t331 t332 _ ?side1 ?side2 ?side3 ?side4 A37.out).mono ?_); (case side1 => repeat (first | exact (Kd.C_below HR0.out HB.out) | (with_reducible refine Kd.C_alloc ?_ _) | (with_reducible refine Kd.C_drewN ?_ _) | (with_reducible refine Kd.C_drew ?_))); (case side2 => exact HC0.out); (case side3 => repeat (first | exact (Kd.C_below HR1.out HB.out) | (with_reducible refine Kd.C_alloc ?_ _) | (with_reducible refine Kd.C_drewN ?_ _) | (with_reducible refine Kd.C_drew ?_))); (case side4 => exact HC1.out); rintro e w56 ⟨v333, rfl, ho0, hb⟩; refine ⟨_, rfl, ?_⟩; have n0_ := Aside0.mk (Kd.R_elder' (by (with_reducible repeat (first | apply Kd.R_alloc | apply Kd.R_drewN | apply Kd.R_drew)); exact HO330.out) (Kd.R_base ho0) hb); have n1_ := Aside0.mk (Kd.R_lower (Kd.R_new' ho0 (Kd.R_lt (by (with_reducible repeat (first | apply Kd.R_alloc | apply Kd.R_drewN | apply Kd.R_drew)); exact HO330.out))) (below_size (by repeat (first | (with_reducible first | exact HB.out | apply below_alloc | apply pw_below_drewN | apply below_drew1) | exact HB.out)))); have n2_ := Aside0.mk (below_step (by repeat (first | (with_reducible first | exact HB.out | apply below_alloc | apply pw_below_drewN | apply below_drew1) | exact HB.out)) hb); clear HO330; clear HB; have HO330 := n0_; have HO334 := n1_; have HB := n2_; clear n0_ n1_ n2_; (try clear hb); (try clear hb2); (try clear hk); (try clear hi); (try clear ho0)))
         go_ret
         exact ⟨by first | rfl | (simp [errW_none, errW_some] <;> rfl) | (simp [*, errW_none, errW_some] <;> rfl), by repeat (first | (with_reducible first | exact HB.out | apply below_alloc | apply pw_below_drewN | apply below_drew1) | exact HB.out)⟩
       ·rw [if_neg c35] at H
        have c35b0 : (t323 == t325) = false := by simpa using c35
        (try (have c35b1 : decide (t323 = t325) = false := by simpa using c35))
        (try (have c35b2 : (t323 == t325) = false := by simpa using c35))
        (try (have c35b3 : ¬ (t323 = t325) := by simpa using c35))
        clear c35
        replace H := Option.bind_eq_some_iff.mp H
        obtain ⟨⟨t336, t337⟩, A570, H⟩ := H
        replace H : ((cohousingref28_State.f kj12 l0 l1 a3 a4).bind fun bt340 => (some false)) = some r := H
        have A57 := Aside0.mk A570
        clear A570
        replace H := Option.bind_eq_some_iff.mp H
        obtain ⟨⟨t340, t341⟩, A580, H⟩ := H
        replace H : (some false) = some r := H
        have A58 := Aside0.mk A580
        clear A580
        obtain rfl := Option.some.inj H
        go_wp2_with (first | ((with_reducible refine gate_callee (f := 16) rfl ?_); refine goesL_ (some 64) rfl rfl Try.func16 (by kernel_rfl) rfl #[.slice A0 l0.length c0, .slice A1 l1.length c1, .slice A2 l2.length c2] rfl (by (try simp only [List.map_toArray, List.map_cons, List.map_nil]); first | done | rfl | (simp only [List.length_drop, List.length_take]; rfl)) ?_; (with_reducible refine (flow_Consistent.calls _ _ l0 _ _ l1 _ _ l2 t323 t324 _ ?side1 ?side2 ?side3 ?side4 ?side5 ?side6 A32.out).mono ?_); (case side1 => repeat (first | exact (Kd.C_below HR0.out HB.out) | (with_reducible refine Kd.C_alloc ?_ _) | (with_reducible refine Kd.C_drewN ?_ _) | (with_reducible refine Kd.C_drew ?_))); (case side2 => exact HC0.out); (case side3 => repeat (first | exact (Kd.C_below HR1.out HB.out) | (with_reducible refine Kd.C_alloc ?_ _) | (with_reducible refine Kd.C_drewN ?_ _) | (with_reducible refine Kd.C_drew ?_))); (case side4 => exact HC1.out); (case side5 => repeat (first | exact (Kd.C_below HR2.out HB.out) | (with_reducible refine Kd.C_alloc ?_ _) | (with_reducible refine Kd.C_drewN ?_ _) | (with_reducible refine Kd.C_drew ?_))); (case side6 => exact HC2.out); rintro e w59 ⟨rfl, hb⟩; refine ⟨_, rfl, ?_⟩; have n0_ := Aside0.mk (below_step (by repeat (first | (with_reducible first | exact HB.out | apply below_alloc | apply pw_below_drewN | apply below_drew1) | exact HB.out)) hb); clear HB; have HB := n0_; clear n0_; (try clear hb); (try clear hb2); (try clear hk); (try clear hi)) | ((with_reducible refine gate_callee (f := 17) rfl ?_); refine goesL_ (some 71) rfl rfl Try.func17 (by kernel_rfl) rfl #[.slice A0 l0.length c0, .slice A1 l1.length c1, .slice A2 l2.length c2] rfl (by (try simp only [List.map_toArray, List.map_cons, List.map_nil]); first | done | rfl | (simp only [List.length_drop, List.length_take]; rfl)) ?_; (with_reducible refine (cohousingref28_Consistent.calls kj12 _ _ l0 _ _ l1 _ _ l2 t325 t326 _ ?side1 ?side2 ?side3 ?side4 ?side5 ?side6 A33.out).mono ?_); (case side1 => repeat (first | exact (Kd.C_below HR0.out HB.out) | (with_reducible refine Kd.C_alloc ?_ _) | (with_reducible refine Kd.C_drewN ?_ _) | (with_reducible refine Kd.C_drew ?_))); (case side2 => exact HC0.out); (case side3 => repeat (first | exact (Kd.C_below HR1.out HB.out) | (with_reducible refine Kd.C_alloc ?_ _) | (with_reducible refine Kd.C_drewN ?_ _) | (with_reducible refine Kd.C_drew ?_))); (case side4 => exact HC1.out); (case side5 => repeat (first | exact (Kd.C_below HR2.out HB.out) | (with_reducible refine Kd.C_alloc ?_ _) | (with_reducible refine Kd.C_drewN ?_ _) | (with_reducible refine Kd.C_drew ?_))); (case side6 => exact HC2.out); rintro e w60 ⟨rfl, hb⟩; refine ⟨_, rfl, ?_⟩; have n0_ := Aside0.mk (below_step (by repeat (first | (with_reducible first | exact HB.out | apply below_alloc | apply pw_below_drewN | apply below_drew1) | exact HB.out)) hb); clear HB; have HB := n0_; clear n0_; (try clear hb); (try clear hb2); (try clear hk); (try clear hi)) | ((with_reducible refine gate_callee (f := 18) rfl ?_); refine goesL_ (some 90) rfl rfl Try.func18 (by kernel_rfl) rfl #[.slice A0 l0.length c0, .slice A1 l1.length c1, .int .i64 a3, .int .i64 a4] rfl (by (try simp only [List.map_toArray, List.map_cons, List.map_nil]); first | done | rfl | (simp only [List.length_drop, List.length_take]; rfl)) ?_; (with_reducible refine (flow_State.calls _ _ l0 _ _ l1 a3 a4 t336 t337 _ ?side1 ?side2 ?side3 ?side4 A57.out).mono ?_); (case side1 => repeat (first | exact (Kd.C_below HR0.out HB.out) | (with_reducible refine Kd.C_alloc ?_ _) | (with_reducible refine Kd.C_drewN ?_ _) | (with_reducible refine Kd.C_drew ?_))); (case side2 => exact HC0.out); (case side3 => repeat (first | exact (Kd.C_below HR1.out HB.out) | (with_reducible refine Kd.C_alloc ?_ _) | (with_reducible refine Kd.C_drewN ?_ _) | (with_reducible refine Kd.C_drew ?_))); (case side4 => exact HC1.out); rintro e w61 ⟨v338, rfl, ho0, hb⟩; refine ⟨_, rfl, ?_⟩; have n0_ := Aside0.mk (Kd.R_lower ho0 (below_size (by repeat (first | (with_reducible first | exact HB.out | apply below_alloc | apply pw_below_drewN | apply below_drew1) | exact HB.out)))); have n1_ := Aside0.mk (below_step (by repeat (first | (with_reducible first | exact HB.out | apply below_alloc | apply pw_below_drewN | apply below_drew1) | exact HB.out)) hb); clear HB; have HO339 := n0_; have HB := n1_; clear n0_ n1_; (try clear hb); (try clear hb2); (try clear hk); (try clear hi); (try clear ho0)) | ((with_reducible refine gate_callee (f := 19) rfl ?_); refine goesL_ (some 98) rfl rfl Try.func19 (by kernel_rfl) rfl #[.slice A0 l0.length c0, .slice A1 l1.length c1, .int .i64 a3, .int .i64 a4] rfl (by (try simp only [List.map_toArray, List.map_cons, List.map_nil]); first | done | rfl | (simp only [List.length_drop, List.length_take]; rfl)) ?_; (with_reducible refine (cohousingref28_State.calls kj12 _ _ l0 _ _ l1 a3 a4 t340 t341 _ ?side1 ?side2 ?side3 ?side4 A58.out).mono ?_); (case side1 => repeat (first | exact (Kd.C_below HR0.out HB.out) | (with_reducible refine Kd.C_alloc ?_ _) | (with_reducible refine Kd.C_drewN ?_ _) | (with_reducible refine Kd.C_drew ?_))); (case side2 => exact HC0.out); (case side3 => repeat (first | exact (Kd.C_below HR1.out HB.out) | (with_reducible refine Kd.C_alloc ?_ _) | (with_reducible refine Kd.C_drewN ?_ _) | (with_reducible refine Kd.C_drew ?_))); (case side4 => exact HC1.out); rintro e w62 ⟨v342, rfl, ho0, hb⟩; refine ⟨_, rfl, ?_⟩; have n0_ := Aside0.mk (Kd.R_elder' (by (with_reducible repeat (first | apply Kd.R_alloc | apply Kd.R_drewN | apply Kd.R_drew)); exact HO339.out) (Kd.R_base ho0) hb); have n1_ := Aside0.mk (Kd.R_lower (Kd.R_new' ho0 (Kd.R_lt (by (with_reducible repeat (first | apply Kd.R_alloc | apply Kd.R_drewN | apply Kd.R_drew)); exact HO339.out))) (below_size (by repeat (first | (with_reducible first | exact HB.out | apply below_alloc | apply pw_below_drewN | apply below_drew1) | exact HB.out)))); have n2_ := Aside0.mk (below_step (by repeat (first | (with_reducible first | exact HB.out | apply below_alloc | apply pw_below_drewN | apply below_drew1) | exact HB.out)) hb); clear HO339; clear HB; have HO339 := n0_; have HO343 := n1_; have HB := n2_; clear n0_ n1_ n2_; (try clear hb); (try clear hb2); (try clear hk); (try clear hi); (try clear ho0)))
        go_ret
        exact ⟨by first | rfl | (simp [errW_none, errW_some] <;> rfl) | (simp [*, errW_none, errW_some] <;> rfl), by repeat (first | (with_reducible first | exact HB.out | apply below_alloc | apply pw_below_drewN | apply below_drew1) | exact HB.out)⟩
      ·replace c34 := Bool.eq_false_iff.mpr c34
       subst c34
       have H1 : ((flow_State.f l0 l1 a3 a4).bind fun bt344 => ((cohousingref28_State.f kj12 l0 l1 a3 a4).bind fun bt348 => (some false))) = some r := by rw [if_neg (show ¬ (false = true) by decide)] at H; exact H
       clear H
       have H := H1
       clear H1
       replace H := Option.bind_eq_some_iff.mp H
       obtain ⟨⟨t344, t345⟩, A630, H⟩ := H
       replace H : ((cohousingref28_State.f kj12 l0 l1 a3 a4).bind fun bt348 => (some false)) = some r := H
       have A63 := Aside0.mk A630
       clear A630
       replace H := Option.bind_eq_some_iff.mp H
       obtain ⟨⟨t348, t349⟩, A640, H⟩ := H
       replace H : (some false) = some r := H
       have A64 := Aside0.mk A640
       clear A640
       obtain rfl := Option.some.inj H
       go_wp2_with (first | ((with_reducible refine gate_callee (f := 16) rfl ?_); refine goesL_ (some 64) rfl rfl Try.func16 (by kernel_rfl) rfl #[.slice A0 l0.length c0, .slice A1 l1.length c1, .slice A2 l2.length c2] rfl (by (try simp only [List.map_toArray, List.map_cons, List.map_nil]); first | done | rfl | (simp only [List.length_drop, List.length_take]; rfl)) ?_; (with_reducible refine (flow_Consistent.calls _ _ l0 _ _ l1 _ _ l2 t323 t324 _ ?side1 ?side2 ?side3 ?side4 ?side5 ?side6 A32.out).mono ?_); (case side1 => repeat (first | exact (Kd.C_below HR0.out HB.out) | (with_reducible refine Kd.C_alloc ?_ _) | (with_reducible refine Kd.C_drewN ?_ _) | (with_reducible refine Kd.C_drew ?_))); (case side2 => exact HC0.out); (case side3 => repeat (first | exact (Kd.C_below HR1.out HB.out) | (with_reducible refine Kd.C_alloc ?_ _) | (with_reducible refine Kd.C_drewN ?_ _) | (with_reducible refine Kd.C_drew ?_))); (case side4 => exact HC1.out); (case side5 => repeat (first | exact (Kd.C_below HR2.out HB.out) | (with_reducible refine Kd.C_alloc ?_ _) | (with_reducible refine Kd.C_drewN ?_ _) | (with_reducible refine Kd.C_drew ?_))); (case side6 => exact HC2.out); rintro e w65 ⟨rfl, hb⟩; refine ⟨_, rfl, ?_⟩; have n0_ := Aside0.mk (below_step (by repeat (first | (with_reducible first | exact HB.out | apply below_alloc | apply pw_below_drewN | apply below_drew1) | exact HB.out)) hb); clear HB; have HB := n0_; clear n0_; (try clear hb); (try clear hb2); (try clear hk); (try clear hi)) | ((with_reducible refine gate_callee (f := 17) rfl ?_); refine goesL_ (some 71) rfl rfl Try.func17 (by kernel_rfl) rfl #[.slice A0 l0.length c0, .slice A1 l1.length c1, .slice A2 l2.length c2] rfl (by (try simp only [List.map_toArray, List.map_cons, List.map_nil]); first | done | rfl | (simp only [List.length_drop, List.length_take]; rfl)) ?_; (with_reducible refine (cohousingref28_Consistent.calls kj12 _ _ l0 _ _ l1 _ _ l2 t325 t326 _ ?side1 ?side2 ?side3 ?side4 ?side5 ?side6 A33.out).mono ?_); (case side1 => repeat (first | exact (Kd.C_below HR0.out HB.out) | (with_reducible refine Kd.C_alloc ?_ _) | (with_reducible refine Kd.C_drewN ?_ _) | (with_reducible refine Kd.C_drew ?_))); (case side2 => exact HC0.out); (case side3 => repeat (first | exact (Kd.C_below HR1.out HB.out) | (with_reducible refine Kd.C_alloc ?_ _) | (with_reducible refine Kd.C_drewN ?_ _) | (with_reducible refine Kd.C_drew ?_))); (case side4 => exact HC1.out); (case side5 => repeat (first | exact (Kd.C_below HR2.out HB.out) | (with_reducible refine Kd.C_alloc ?_ _) | (with_reducible refine Kd.C_drewN ?_ _) | (with_reducible refine Kd.C_drew ?_))); (case side6 => exact HC2.out); rintro e w66 ⟨rfl, hb⟩; refine ⟨_, rfl, ?_⟩; have n0_ := Aside0.mk (below_step (by repeat (first | (with_reducible first | exact HB.out | apply below_alloc | apply pw_below_drewN | apply below_drew1) | exact HB.out)) hb); clear HB; have HB := n0_; clear n0_; (try clear hb); (try clear hb2); (try clear hk); (try clear hi)) | ((with_reducible refine gate_callee (f := 18) rfl ?_); refine goesL_ (some 90) rfl rfl Try.func18 (by kernel_rfl) rfl #[.slice A0 l0.length c0, .slice A1 l1.length c1, .int .i64 a3, .int .i64 a4] rfl (by (try simp only [List.map_toArray, List.map_cons, List.map_nil]); first | done | rfl | (simp only [List.length_drop, List.length_take]; rfl)) ?_; (with_reducible refine (flow_State.calls _ _ l0 _ _ l1 a3 a4 t344 t345 _ ?side1 ?side2 ?side3 ?side4 A63.out).mono ?_); (case side1 => repeat (first | exact (Kd.C_below HR0.out HB.out) | (with_reducible refine Kd.C_alloc ?_ _) | (with_reducible refine Kd.C_drewN ?_ _) | (with_reducible refine Kd.C_drew ?_))); (case side2 => exact HC0.out); (case side3 => repeat (first | exact (Kd.C_below HR1.out HB.out) | (with_reducible refine Kd.C_alloc ?_ _) | (with_reducible refine Kd.C_drewN ?_ _) | (with_reducible refine Kd.C_drew ?_))); (case side4 => exact HC1.out); rintro e w67 ⟨v346, rfl, ho0, hb⟩; refine ⟨_, rfl, ?_⟩; have n0_ := Aside0.mk (Kd.R_lower ho0 (below_size (by repeat (first | (with_reducible first | exact HB.out | apply below_alloc | apply pw_below_drewN | apply below_drew1) | exact HB.out)))); have n1_ := Aside0.mk (below_step (by repeat (first | (with_reducible first | exact HB.out | apply below_alloc | apply pw_below_drewN | apply below_drew1) | exact HB.out)) hb); clear HB; have HO347 := n0_; have HB := n1_; clear n0_ n1_; (try clear hb); (try clear hb2); (try clear hk); (try clear hi); (try clear ho0)) | ((with_reducible refine gate_callee (f := 19) rfl ?_); refine goesL_ (some 98) rfl rfl Try.func19 (by kernel_rfl) rfl #[.slice A0 l0.length c0, .slice A1 l1.length c1, .int .i64 a3, .int .i64 a4] rfl (by (try simp only [List.map_toArray, List.map_cons, List.map_nil]); first | done | rfl | (simp only [List.length_drop, List.length_take]; rfl)) ?_; (with_reducible refine (cohousingref28_State.calls kj12 _ _ l0 _ _ l1 a3 a4 t348 t349 _ ?side1 ?side2 ?side3 ?side4 A64.out).mono ?_); (case side1 => repeat (first | exact (Kd.C_below HR0.out HB.out) | (with_reducible refine Kd.C_alloc ?_ _) | (with_reducible refine Kd.C_drewN ?_ _) | (with_reducible refine Kd.C_drew ?_))); (case side2 => exact HC0.out); (case side3 => repeat (first | exact (Kd.C_below HR1.out HB.out) | (with_reducible refine Kd.C_alloc ?_ _) | (with_reducible refine Kd.C_drewN ?_ _) | (with_reducible refine Kd.C_drew ?_))); (case side4 => exact HC1.out); rintro e w68 ⟨v350, rfl, ho0, hb⟩; refine ⟨_, rfl, ?_⟩; have n0_ := Aside0.mk (Kd.R_elder' (by (with_reducible repeat (first | apply Kd.R_alloc | apply Kd.R_drewN | apply Kd.R_drew)); exact HO347.out) (Kd.R_base ho0) hb); have n1_ := Aside0.mk (Kd.R_lower (Kd.R_new' ho0 (Kd.R_lt (by (with_reducible repeat (first | apply Kd.R_alloc | apply Kd.R_drewN | apply Kd.R_drew)); exact HO347.out))) (below_size (by repeat (first | (with_reducible first | exact HB.out | apply below_alloc | apply pw_below_drewN | apply below_drew1) | exact HB.out)))); have n2_ := Aside0.mk (below_step (by repeat (first | (with_reducible first | exact HB.out | apply below_alloc | apply pw_below_drewN | apply below_drew1) | exact HB.out)) hb); clear HO347; clear HB; have HO347 := n0_; have HO351 := n1_; have HB := n2_; clear n0_ n1_ n2_; (try clear hb); (try clear hb2); (try clear hk); (try clear hi); (try clear ho0)))
       go_ret
       exact ⟨by first | rfl | (simp [errW_none, errW_some] <;> rfl) | (simp [*, errW_none, errW_some] <;> rfl), by repeat (first | (with_reducible first | exact HB.out | apply below_alloc | apply pw_below_drewN | apply below_drew1) | exact HB.out)⟩
end Go.Proofs.Ytmojlpafpeeelaa.P
end
section
namespace Go.Proofs.FlowTree
def sm (f : Nat → Int) (ks : List Nat) : Int := (ks.map f).foldl (· + ·) 0
theorem foldl_add (l : List Int) : ∀ a : Int, l.foldl (· + ·) a = a + l.foldl (· + ·) 0 := by
 induction l with
 | nil => intro a; simp
 | cons x l ih => intro a; rw [List.foldl_cons, List.foldl_cons, ih (a + x), ih (0 + x)]; omega
theorem sm_nil (f : Nat → Int) : sm f [] = 0 := rfl
theorem sm_cons (f : Nat → Int) (k : Nat) (ks : List Nat) : sm f (k :: ks) = f k + sm f ks := by
 unfold sm
 rw [List.map_cons, List.foldl_cons, foldl_add]; omega
theorem sm_congr {f g : Nat → Int} {ks : List Nat} (h : ∀ k ∈ ks, f k = g k) : sm f ks = sm g ks := by
 induction ks with
 | nil => rfl
 | cons k ks ih => rw [sm_cons, sm_cons, h k (by simp), ih (fun j hj => h j (by simp [hj]))]
theorem sm_le {f g : Nat → Int} {ks : List Nat} (h : ∀ k ∈ ks, f k ≤ g k) : sm f ks ≤ sm g ks := by
 induction ks with
 | nil => exact Int.le_refl _
 | cons k ks ih => rw [sm_cons, sm_cons]; have := h k (by simp); have := ih (fun j hj => h j (by simp [hj])); omega
theorem sm_bound {f : Nat → Int} {ks : List Nat} {a b : Int} (h : ∀ k ∈ ks, a ≤ f k ∧ f k ≤ b) : a * ks.length ≤ sm f ks ∧ sm f ks ≤ b * ks.length := by
 induction ks with
 | nil => simp [sm_nil]
 | cons k ks ih =>
  rw [sm_cons]
  have h1 := h k (by simp)
  have h2 := ih (fun j hj => h j (by simp [hj]))
  simp only [List.length_cons, Int.natCast_add, Int.natCast_one, Int.mul_add, Int.mul_one]
  omega
theorem sm_nonneg {f : Nat → Int} {ks : List Nat} (h : ∀ k ∈ ks, 0 ≤ f k) : 0 ≤ sm f ks := by
 induction ks with
 | nil => exact Int.le_refl _
 | cons k ks ih => rw [sm_cons]; have := h k (by simp); have := ih (fun j hj => h j (by simp [hj])); omega
theorem sm_append (f : Nat → Int) (a b : List Nat) : sm f (a ++ b) = sm f a + sm f b := by
 induction a with
 | nil => simp [sm_nil]
 | cons x a ih => rw [List.cons_append, sm_cons, sm_cons, ih]; omega
theorem sm_split (f : Nat → Int) {ks : List Nat} {k : Nat} (hk : k ∈ ks) : ∃ a b, ks = a ++ k :: b ∧ sm f ks = f k + sm f (a ++ b) := by
 obtain ⟨a, b, rfl⟩ := List.append_of_mem hk
 exact ⟨a, b, rfl, by rw [sm_append, sm_append, sm_cons]; omega⟩
theorem fill (lo hi : Nat → Int) (ks : List Nat) (hn : ks.Nodup) (h : ∀ k ∈ ks, lo k ≤ hi k) : ∀ s, sm lo ks ≤ s → s ≤ sm hi ks → ∃ c : Nat → Int, (∀ k ∈ ks, lo k ≤ c k ∧ c k ≤ hi k) ∧ sm c ks = s := by
 induction ks with
 | nil => intro s h1 h2; exact ⟨fun _ => 0, (fun k hk => by cases hk), (by rw [sm_nil] at *; omega)⟩
 | cons k ks ih =>
  intro s h1 h2
  rw [sm_cons] at h1 h2
  have hk := h k (by simp)
  have hle := sm_le (fun j hj => h j (List.mem_cons_of_mem _ hj))
  rw [List.nodup_cons] at hn
  have key : ∃ v, lo k ≤ v ∧ v ≤ hi k ∧ sm lo ks ≤ s - v ∧ s - v ≤ sm hi ks := by
   by_cases hc : s - lo k ≤ sm hi ks
   ·exact ⟨lo k, by omega, by omega, by omega, by omega⟩
   ·exact ⟨s - sm hi ks, by omega, by omega, by omega, by omega⟩
  obtain ⟨v, hv1, hv2, hv3, hv4⟩ := key
  obtain ⟨c, hc, hs⟩ := ih hn.2 (fun j hj => h j (List.mem_cons_of_mem _ hj)) (s - v) hv3 hv4
  refine ⟨fun j => if j = k then v else c j, ?_, ?_⟩
  ·intro j hj
   rcases List.mem_cons.1 hj with rfl | hj
   ·simp only [if_true]; exact ⟨hv1, hv2⟩
   ·have : j ≠ k := fun e => hn.1 (e ▸ hj)
    simp only [this, if_false]; exact hc j hj
  ·rw [sm_cons]
   simp only [if_true]
   rw [sm_congr (g := c) (fun j hj => by have : j ≠ k := fun e => hn.1 (e ▸ hj); simp [this]), hs]; omega
structure Net where
 n : Nat
 kid : Nat → List Nat
 loss : Nat → Int
structure Net.Ok (T : Net) : Prop where
 lt : ∀ i k, k ∈ T.kid i → i < k ∧ k < T.n
 nodup : ∀ i, (T.kid i).Nodup
 one : ∀ i j k, k ∈ T.kid i → k ∈ T.kid j → i = j
 loss0 : ∀ i, i < T.n → 0 ≤ T.loss i
def Net.eq (T : Net) (x : Nat → Int) (i : Nat) : Prop := T.kid i ≠ [] → 0 ≤ x i - sm x (T.kid i) ∧ x i - sm x (T.kid i) ≤ T.loss i
def Sol (T : Net) (lo hi : Nat → Int) (x : Nat → Int) : Prop := (∀ i, i < T.n → lo i ≤ x i ∧ x i ≤ hi i) ∧ ∀ i, i < T.n → T.eq x i
theorem eq_congr {T : Net} {x y : Nat → Int} {i : Nat} (h0 : x i = y i) (h : ∀ k ∈ T.kid i, x k = y k) (hx : T.eq x i) : T.eq y i := by
 intro hk
 have := hx hk
 rw [sm_congr h, h0] at this
 exact this
theorem extend (T : Net) (hT : T.Ok) (lo hi : Nat → Int) (hne : ∀ i, i < T.n → lo i ≤ hi i) (hup : ∀ i, i < T.n → T.kid i ≠ [] → sm lo (T.kid i) ≤ lo i ∧ hi i ≤ sm hi (T.kid i) + T.loss i) :
  ∀ (d m : Nat), m + d = T.n → ∀ x : Nat → Int, (∀ i, i < T.n → lo i ≤ x i ∧ x i ≤ hi i) → (∀ i, i < m → T.eq x i) →
   ∃ y, Sol T lo hi y ∧ ∀ j, (∀ i, m ≤ i → j ∉ T.kid i) → y j = x j := by
 intro d
 induction d with
 | zero =>
  intro m hm x hx he
  exact ⟨x, ⟨hx, fun i hi => he i (by omega)⟩, fun _ _ => rfl⟩
 | succ d ih =>
  intro m hm x hx he
  have hmn : m < T.n := by omega
  have key : ∃ x', (∀ i, i < T.n → lo i ≤ x' i ∧ x' i ≤ hi i) ∧ (∀ i, i < m + 1 → T.eq x' i) ∧ ∀ j, j ∉ T.kid m → x' j = x j := by
   by_cases hk : T.kid m = []
   ·refine ⟨x, hx, fun i hi => ?_, fun _ _ => rfl⟩
    by_cases h : i < m
    ·exact he i h
    ·rw [show i = m by omega]; intro h'; exact absurd hk h'
   ·have h1 := hup m hmn hk
    have h2 := hx m hmn
    have hle : sm lo (T.kid m) ≤ sm hi (T.kid m) := sm_le (fun k hk' => hne k (hT.lt m k hk').2)
    have hl0 := hT.loss0 m hmn
    have hs : ∃ s, sm lo (T.kid m) ≤ s ∧ s ≤ sm hi (T.kid m) ∧ 0 ≤ x m - s ∧ x m - s ≤ T.loss m := by
     by_cases hc : x m ≤ sm hi (T.kid m)
     ·exact ⟨x m, by omega, by omega, by omega, by omega⟩
     ·exact ⟨sm hi (T.kid m), by omega, by omega, by omega, by omega⟩
    obtain ⟨s, hs1, hs2, hs3, hs4⟩ := hs
    obtain ⟨c, hc, hcs⟩ := fill lo hi (T.kid m) (hT.nodup m) (fun k hk' => hne k (hT.lt m k hk').2) s hs1 hs2
    refine ⟨fun j => if j ∈ T.kid m then c j else x j, ?_, ?_, ?_⟩
    ·intro i hi'
     by_cases h : i ∈ T.kid m
     ·simp only [h, if_true]; exact hc i h
     ·simp only [h, if_false]; exact hx i hi'
    ·intro i hi'
     by_cases h : i < m
     ·refine eq_congr (x := x) ?_ ?_ (he i h)
      ·have : i ∉ T.kid m := fun hm' => by have := (hT.lt m i hm').1; omega
       simp [this]
      ·intro k hk'
       have : k ∉ T.kid m := fun hm' => by have := hT.one i m k hk' hm'; omega
       simp [this]
     ·have e : i = m := by omega
      subst e
      intro _
      have h3 : i ∉ T.kid i := fun hm' => by have := (hT.lt i i hm').1; omega
      rw [sm_congr (g := c) (fun k hk' => by simp [hk'])]
      simp only [h3, if_false]
      rw [hcs]
      exact ⟨hs3, hs4⟩
    ·intro j hj
     simp [hj]
  obtain ⟨x', hx', he', hk'⟩ := key
  obtain ⟨y, hy, hyx⟩ := ih (m + 1) (by omega) x' hx' he'
  refine ⟨y, hy, fun j hj => ?_⟩
  rw [hyx j (fun i hi' => hj i (by omega)), hk' j (hj m (Nat.le_refl _))]
theorem exact (T : Net) (hT : T.Ok) (lo hi dl dh : Nat → Int) (hne : ∀ i, i < T.n → lo i ≤ hi i)
  (hup : ∀ i, i < T.n → T.kid i ≠ [] → sm lo (T.kid i) ≤ lo i ∧ hi i ≤ sm hi (T.kid i) + T.loss i)
  (hsub : ∀ i, i < T.n → lo i ≤ dl i ∧ dl i ≤ dh i ∧ dh i ≤ hi i)
  (hdn : ∀ i, i < T.n → ∀ k ∈ T.kid i, dl i - T.loss i - (sm hi (T.kid i) - hi k) ≤ dl k ∧ dh k ≤ dh i - (sm lo (T.kid i) - lo k)) :
  ∀ (k : Nat), k < T.n → ∀ v, dl k ≤ v → v ≤ dh k → ∃ x, Sol T lo hi x ∧ x k = v := by
 intro k
 induction k using Nat.strongRecOn with
 | ind k ih =>
  intro hk v hv1 hv2
  by_cases hp : ∃ i, i < T.n ∧ k ∈ T.kid i
  ·obtain ⟨i, hi', hki⟩ := hp
   have hik := (hT.lt i k hki).1
   have hne' : T.kid i ≠ [] := fun h => by rw [h] at hki; cases hki
   have h1 := hdn i hi' k hki
   have h2 := hsub i hi'
   have h3 := hup i hi' hne'
   have h4 := hsub k hk
   have hl0 := hT.loss0 i hi'
   obtain ⟨a, b, hab, hlo⟩ := sm_split lo hki
   have hhi : sm hi (T.kid i) = hi k + sm hi (a ++ b) := by rw [hab, sm_append, sm_append, sm_cons]; omega
   have hnd : (a ++ b).Nodup ∧ k ∉ a ++ b := by
    have := hT.nodup i
    rw [hab] at this
    rw [List.nodup_append] at this
    obtain ⟨ha, hb, hd⟩ := this
    rw [List.nodup_cons] at hb
    refine ⟨List.nodup_append.2 ⟨ha, hb.2, fun x hx y hy => hd x hx y (List.mem_cons_of_mem _ hy)⟩, fun h => ?_⟩
    rcases List.mem_append.1 h with h | h
    ·exact hd k h k (by simp) rfl
    ·exact hb.1 h
   have hmem : ∀ j ∈ a ++ b, j ∈ T.kid i := by
    intro j hj
    rw [hab]
    rcases List.mem_append.1 hj with h | h
    ·exact List.mem_append.2 (.inl h)
    ·exact List.mem_append.2 (.inr (List.mem_cons_of_mem _ h))
   have hle : sm lo (a ++ b) ≤ sm hi (a ++ b) := sm_le (fun j hj => hne j (hT.lt i j (hmem j hj)).2)
   have hw : ∃ w s, dl i ≤ w ∧ w ≤ dh i ∧ sm lo (a ++ b) ≤ s ∧ s ≤ sm hi (a ++ b) ∧ 0 ≤ w - (v + s) ∧ w - (v + s) ≤ T.loss i := by
    by_cases hc : dl i ≤ sm lo (a ++ b) + v
    ·exact ⟨sm lo (a ++ b) + v, sm lo (a ++ b), by omega, by omega, by omega, by omega, by omega, by omega⟩
    ·by_cases hc2 : dl i - v ≤ sm hi (a ++ b)
     ·exact ⟨dl i, dl i - v, by omega, by omega, by omega, by omega, by omega, by omega⟩
     ·exact ⟨dl i, sm hi (a ++ b), by omega, by omega, by omega, by omega, by omega, by omega⟩
   obtain ⟨w, s, hw1, hw2, hs1, hs2, hs3, hs4⟩ := hw
   obtain ⟨y, hy, hyi⟩ := ih i hik hi' w hw1 hw2
   obtain ⟨c, hc, hcs⟩ := fill lo hi (a ++ b) hnd.1 (fun j hj => hne j (hT.lt i j (hmem j hj)).2) s hs1 hs2
   let c' : Nat → Int := fun j => if j = k then v else c j
   have hc' : ∀ j ∈ T.kid i, lo j ≤ c' j ∧ c' j ≤ hi j := by
    intro j hj
    by_cases h : j = k
    ·subst h; simp only [c', if_true]; omega
    ·simp only [c', h, if_false]
     refine hc j ?_
     rw [hab] at hj
     rcases List.mem_append.1 hj with h' | h'
     ·exact List.mem_append.2 (.inl h')
     ·rcases List.mem_cons.1 h' with h' | h'
      ·exact absurd h' h
      ·exact List.mem_append.2 (.inr h')
   have hcs' : sm c' (T.kid i) = v + s := by
    have : sm c' (T.kid i) = c' k + sm c' (a ++ b) := by rw [hab, sm_append, sm_append, sm_cons]; omega
    rw [this, sm_congr (f := c') (g := c) (fun j hj => by have : j ≠ k := fun e => hnd.2 (e ▸ hj); simp [c', this]), hcs]
    simp [c']
   obtain ⟨z, hz, hzx⟩ := extend T hT lo hi hne hup (T.n - (i + 1)) (i + 1) (by omega) (fun j => if j ∈ T.kid i then c' j else y j)
    (fun j hj => by
     by_cases h : j ∈ T.kid i
     ·simp only [h, if_true]; exact hc' j h
     ·simp only [h, if_false]; exact hy.1 j hj)
    (fun j hj => by
     by_cases h : j < i
     ·refine eq_congr (x := y) ?_ ?_ (hy.2 j (by omega))
      ·have : j ∉ T.kid i := fun hm' => by have := (hT.lt i j hm').1; omega
       simp [this]
      ·intro q hq
       have : q ∉ T.kid i := fun hm' => by have := hT.one j i q hq hm'; omega
       simp [this]
     ·have e : j = i := by omega
      subst e
      intro _
      have h3 : j ∉ T.kid j := fun hm' => by have := (hT.lt j j hm').1; omega
      rw [sm_congr (g := c') (fun q hq => by simp [hq])]
      simp only [h3, if_false]
      rw [hcs', hyi]
      exact ⟨hs3, hs4⟩)
   refine ⟨z, hz, ?_⟩
   rw [hzx k (fun j hj hk' => by have := hT.one i j k hki hk'; omega)]
   simp [hki, c']
  ·have h4 := hsub k hk
   obtain ⟨z, hz, hzx⟩ := extend T hT lo hi hne hup T.n 0 (by omega) (fun j => if j = k then v else lo j)
    (fun j hj => by
     by_cases h : j = k
     ·subst h; simp only [if_true]; omega
     ·simp only [h, if_false]; exact ⟨Int.le_refl _, hne j hj⟩)
    (fun j hj => absurd hj (Nat.not_lt_zero _))
   refine ⟨z, hz, ?_⟩
   rw [hzx k (fun j _ hk' => hp ⟨j, by have := hT.lt j k hk'; omega, hk'⟩)]
   simp
end Go.Proofs.FlowTree
end
section
namespace Go.Proofs.Ytmojlpafpeeelaa.P
open Go.RowKit Go.Proofs.YtmojlpafpeeelaaW.PrintWords Go.Proofs.YtmojlpafpeeelaaW.PrintLast Go.Proofs.YtmojlpafpeeelaaW.PrintMore Go.Proofs.YtmojlpafpeeelaaH Go.Proofs.FlowTree
abbrev idP (l : List S44) (i : Nat) : Int := (rd_T44 l i).f0
abbrev abP (l : List S44) (i : Nat) : Int := (rd_T44 l i).f1
abbrev loP (l : List S44) (i : Nat) : Int := (rd_T44 l i).f2
def okP (l : List S44) (i : Nat) : Prop := 1 ≤ idP l i ∧ (0 < i → idP l (i - 1) < idP l i) ∧ (0 ≤ loP l i ∧ loP l i ≤ 1000000000) ∧ (abP l i ≠ 0 → ∃ j, j < i ∧ idP l j = abP l i)
def kidsAt (l : List S44) (m i : Nat) : List Nat := (List.range m).filter (fun k => decide (i < k) && decide (abP l k = idP l i))
def netT (l : List S44) : Net := { n := l.length, kid := kidsAt l l.length, loss := loP l }
theorem kidsAt_mem {l : List S44} {m i k : Nat} : k ∈ kidsAt l m i ↔ k < m ∧ i < k ∧ abP l k = idP l i := by
 simp [kidsAt]
theorem kidsAt_succ (l : List S44) (m i : Nat) : kidsAt l (m + 1) i = kidsAt l m i ++ (if i < m ∧ abP l m = idP l i then [m] else []) := by
 unfold kidsAt
 rw [List.range_succ, List.filter_append]
 congr 1
 by_cases h : i < m ∧ abP l m = idP l i
 ·rw [if_pos h, List.filter_cons_of_pos (by simp [h])]; rfl
 ·rw [if_neg h, List.filter_cons_of_neg (by simpa using h)]; rfl
theorem asc_of {l : List S44} {m : Nat} (h : ∀ i, i < m → okP l i) : ∀ d i j, j = i + d + 1 → j < m → idP l i < idP l j := by
 intro d
 induction d with
 | zero =>
  intro i j e hj
  have := (h j hj).2.1 (by omega)
  rwa [show j - 1 = i by omega] at this
 | succ d ih =>
  intro i j e hj
  have h1 := ih i (j - 1) (by omega) (by omega)
  have h2 := (h j hj).2.1 (by omega)
  omega
theorem asc {l : List S44} {m : Nat} (h : ∀ i, i < m → okP l i) {i j : Nat} (hij : i < j) (hj : j < m) : idP l i < idP l j := asc_of h (j - i - 1) i j (by omega) hj
theorem id_inj {l : List S44} {m : Nat} (h : ∀ i, i < m → okP l i) {i j : Nat} (hi : i < m) (hj : j < m) (e : idP l i = idP l j) : i = j := by
 rcases Nat.lt_trichotomy i j with h1 | h1 | h1
 ·have := asc h h1 hj; omega
 ·exact h1
 ·have := asc h h1 hi; omega
theorem isVol_iff (n : Int) : isVol n = true ↔ 0 ≤ n ∧ n ≤ 1000000000 := by simp [isVol]
structure OpenAt (l : List S44) (m : Nat) (kids : List (List Int)) (at_ : Int → Option Int) : Prop where
 len : kids.length = l.length
 kid : ∀ j, j < l.length → rdK kids j = (kidsAt l m j).map Int.ofNat
 has : ∀ id j, at_ id = some j → ∃ n : Nat, j = n ∧ n < m ∧ idP l n = id
 all : ∀ n, n < m → at_ (idP l n) = some (n : Int)
theorem rdK_set (kids : List (List Int)) (i j : Nat) (x : List Int) (hi : i < kids.length) : rdK (kids.set i x) j = if i = j then x else rdK kids j := by
 simp only [rdK, List.getD_eq_getElem?_getD, Int.toNat_natCast, List.getElem?_set]
 by_cases h : i = j
 ·subst h; simp [hi]
 ·simp [h]
theorem bad_iff (l : List S44) (m : Nat) (kids : List (List Int)) (at_ : Int → Option Int) (h : OpenAt l m kids at_) : badP l m (at_ (abP l m)).isSome = false ↔ okP l m := by
 have hasiff : (at_ (abP l m)).isSome = true ↔ ∃ j, j < m ∧ idP l j = abP l m := by
  constructor
  ·intro hs
   obtain ⟨j, hj⟩ := Option.isSome_iff_exists.1 hs
   obtain ⟨n, _, hn, e⟩ := h.has _ _ hj
   exact ⟨n, hn, e⟩
  ·rintro ⟨j, hj, e⟩
   rw [← e, h.all j hj]
   rfl
 have hm1 : (0 : Int) < (m : Int) → ((m : Int) - 1) = ((m - 1 : Nat) : Int) := by omega
 unfold badP okP
 simp only [idP, loP, abP] at *
 constructor
 ·intro hb
  simp only [Bool.or_eq_false_iff, Bool.and_eq_false_iff, decide_eq_false_iff_not, Bool.not_eq_false', isVol_iff, bne_eq_false_iff_eq, Bool.not_eq_false'] at hb
  obtain ⟨⟨⟨h1, h2⟩, h3⟩, h4⟩ := hb
  refine ⟨by omega, fun hm => ?_, h3, fun ha => ?_⟩
  ·rcases h2 with h2 | h2
   ·omega
   ·rw [hm1 (by omega)] at h2; omega
  ·rcases h4 with h4 | h4
   ·exact absurd h4 ha
   ·exact hasiff.1 h4
 ·rintro ⟨h1, h2, h3, h4⟩
  simp only [Bool.or_eq_false_iff, Bool.and_eq_false_iff, decide_eq_false_iff_not, Bool.not_eq_false', isVol_iff, bne_eq_false_iff_eq, Bool.not_eq_false']
  refine ⟨⟨⟨by omega, ?_⟩, h3⟩, ?_⟩
  ·by_cases hm : 0 < m
   ·refine .inr ?_
    rw [hm1 (by omega)]
    have := h2 hm
    omega
   ·exact .inl (by omega)
  ·by_cases ha : abP l m = 0
   ·exact .inl ha
   ·exact .inr (hasiff.2 (h4 ha))
theorem open_step (l : List S44) (m : Nat) (hm : m < l.length) (kids : List (List Int)) (at_ : Int → Option Int) (h : OpenAt l m kids at_) (hok : ∀ i, i < m + 1 → okP l i) :
  OpenAt l (m + 1) (addKid kids (at_ (abP l m)) m) (setI at_ (idP l m) m) := by
 refine ⟨(addKid_len _ _ _).trans h.len, fun j hj => ?_, fun id j hj => ?_, fun n hn => ?_⟩
 ·rw [kidsAt_succ, List.map_append]
  cases ha : at_ (abP l m) with
  | none =>
   have hno : ¬ (j < m ∧ abP l m = idP l j) := by
    rintro ⟨h1, h2⟩
    rw [h2, h.all j h1] at ha
    cases ha
   rw [if_neg hno]
   simp only [addKid, List.map_nil, List.append_nil]
   exact h.kid j hj
  | some a =>
   obtain ⟨n, rfl, hn, hid⟩ := h.has _ _ ha
   have hnl : n < kids.length := by rw [h.len]; omega
   simp only [addKid]
   rw [Int.toNat_natCast, rdK_set _ _ _ _ hnl]
   by_cases e : n = j
   ·subst e
    rw [if_pos rfl, if_pos ⟨hn, hid.symm⟩, h.kid n hj]
    rfl
   ·rw [if_neg e, if_neg (fun hh => e (id_inj hok (by omega) (by omega) (hid.trans hh.2))), h.kid j hj]
    simp
 ·unfold setI at hj
  split at hj
  ·rename_i e
   injection hj with hj
   exact ⟨m, hj.symm, by omega, e.symm⟩
  ·obtain ⟨n, e, hn, hid⟩ := h.has _ _ hj
   exact ⟨n, e, by omega, hid⟩
 ·unfold setI
  by_cases e : n = m
  ·subst e; rw [if_pos rfl]
  ·rw [if_neg (fun hh => e (id_inj hok (by omega) (by omega) hh)), h.all n (by omega)]
theorem openL_spec (l : List S44) : ∀ (k m : Nat) (kids : List (List Int)) (at_ : Int → Option Int), m + k = l.length → OpenAt l m kids at_ → (∀ i, i < m → okP l i) →
  (∀ r, openL l k kids at_ m = some r → (∀ i, i < l.length → okP l i) ∧ r.length = l.length ∧ ∀ j, j < l.length → rdK r j = (kidsAt l l.length j).map Int.ofNat) ∧ ((∀ i, i < l.length → okP l i) → ∃ r, openL l k kids at_ m = some r) := by
 intro k
 induction k with
 | zero =>
  intro m kids at_ hm h hok
  have e : m = l.length := by omega
  subst e
  refine ⟨fun r hr => ?_, fun _ => ⟨kids, rfl⟩⟩
  simp only [openL, Option.some.injEq] at hr
  subst hr
  exact ⟨hok, h.len, h.kid⟩
 | succ k ih =>
  intro m kids at_ hm h hok
  have hb := bad_iff l m kids at_ h
  simp only [openL]
  cases hbad : badP l m (at_ (abP l m)).isSome with
  | true =>
   have hno : ¬ okP l m := fun ho => by rw [hb.2 ho] at hbad; cases hbad
   rw [if_pos rfl]
   exact ⟨(fun r hr => by cases hr), fun ho => absurd (ho m (by omega)) hno⟩
  | false =>
   have hyes := hb.1 hbad
   rw [if_neg (by decide)]
   have hok' : ∀ i, i < m + 1 → okP l i := fun i hi => by
    by_cases h' : i < m
    ·exact hok i h'
    ·rw [show i = m by omega]; exact hyes
   have := ih (m + 1) (addKid kids (at_ (abP l m)) m) (setI at_ (idP l m) m) (by omega) (open_step l m (by omega) kids at_ h hok') hok'
   rw [show ((m + 1 : Nat) : Int) = (m : Int) + 1 from by omega] at this
   exact this
theorem openAt0 (l : List S44) : OpenAt l 0 (List.replicate l.length []) (fun _ => none) := by
 refine ⟨by simp, fun j hj => ?_, (fun id j hj => by cases hj), fun n hn => absurd hn (Nat.not_lt_zero _)⟩
 simp [rdK, kidsAt, List.getD_eq_getElem?_getD, hj]
def okL (l : List S44) : Prop := ∀ i, i < l.length → okP l i
theorem openK_some {l : List S44} {kids : List (List Int)} (h : openK l = some kids) : okL l ∧ ∀ j, j < l.length → rdK kids j = (kidsAt l l.length j).map Int.ofNat := by
 have := (openL_spec l l.length 0 _ _ (by omega) (openAt0 l) (fun i hi => absurd hi (Nat.not_lt_zero _))).1 kids h
 exact ⟨this.1, this.2.2⟩
theorem openK_of {l : List S44} (h : okL l) : ∃ kids, openK l = some kids :=
 (openL_spec l l.length 0 _ _ (by omega) (openAt0 l) (fun i hi => absurd hi (Nat.not_lt_zero _))).2 h
theorem netT_ok {l : List S44} (h : okL l) : (netT l).Ok := by
 refine ⟨fun i k hk => ?_, fun i => ?_, fun i j k hi hj => ?_, fun i hi => (h i hi).2.2.1.1⟩
 ·have := kidsAt_mem.1 hk; exact ⟨this.2.1, this.1⟩
 ·exact List.Nodup.sublist List.filter_sublist List.nodup_range
 ·have h1 := kidsAt_mem.1 hi
  have h2 := kidsAt_mem.1 hj
  exact id_inj h (show i < l.length by omega) (show j < l.length by omega) (h1.2.2.symm.trans h2.2.2)
end Go.Proofs.Ytmojlpafpeeelaa.P
end
section
namespace Go.Proofs.Ytmojlpafpeeelaa.P
open Go.RowKit Go.Proofs.YtmojlpafpeeelaaW.PrintWords Go.Proofs.YtmojlpafpeeelaaW.PrintLast Go.Proofs.YtmojlpafpeeelaaW.PrintMore Go.Proofs.YtmojlpafpeeelaaH Go.Proofs.FlowTree
abbrev IV := S59
abbrev PI := S44
abbrev rv (r : List IV) (i : Nat) : IV := rd_T59 r i
def Lo (r : List IV) (i : Nat) : Int := (rv r i).f0
def Hi (r : List IV) (i : Nat) : Int := (rv r i).f1
def Vol (n : Nat) (lo hi : Nat → Int) : Prop := ∀ i, i < n → 0 ≤ lo i ∧ lo i ≤ hi i ∧ hi i ≤ 1000000000
theorem rv_set (r : List IV) (i j : Nat) (y : IV) (hi : i < r.length) : rv (r.set i y) j = if i = j then y else rv r j := by
 simp only [rv, rd_T59, List.getD_eq_getElem?_getD, Int.toNat_natCast, List.getElem?_set]
 by_cases h : i = j
 ·subst h; simp [hi]
 ·simp [h]
theorem wrap_id {n : Int} (h1 : -9223372036854775808 ≤ n) (h2 : n ≤ 9223372036854775807) : wrap64 n = n := by unfold wrap64; omega
theorem total_fold (φ : IV → Int) (xs : List IV) : ∀ s : Int, 0 ≤ s → s + 1000000000 * xs.length ≤ 1000000000000 → (∀ x ∈ xs, 0 ≤ φ x ∧ φ x ≤ 1000000000) → xs.foldl (fun s x => wrap64 (s + φ x)) s = (xs.map φ).foldl (· + ·) s := by
 induction xs with
 | nil => intro s _ _ _; rfl
 | cons x xs ih =>
  intro s h0 h1 h
  have hx := h x (by simp)
  simp only [List.length_cons, Int.natCast_add, Int.natCast_one, Int.mul_add, Int.mul_one] at h1
  have hl : (0 : Int) ≤ 1000000000 * xs.length := by omega
  rw [List.foldl_cons, List.map_cons, List.foldl_cons, wrap_id (by omega) (by omega)]
  exact ih (s + φ x) (by omega) (by omega) (fun y hy => h y (List.mem_cons_of_mem _ hy))
theorem total_eq (φ : IV → Int) (r : List IV) (ks : List Nat) (hl : ks.length ≤ 200) (h : ∀ k ∈ ks, 0 ≤ φ (rv r k) ∧ φ (rv r k) ≤ 1000000000) : totalF φ (ks.map (fun k => rv r k)) = sm (fun k => φ (rv r k)) ks := by
 unfold totalF sm
 rw [total_fold φ _ 0 (Int.le_refl _) (by rw [List.length_map]; omega) (by
  intro x hx
  obtain ⟨k, hk, rfl⟩ := List.mem_map.1 hx
  exact h k hk), List.map_map]
 rfl
theorem kids_len (l : List PI) (i : Nat) : (kidsAt l l.length i).length ≤ l.length := by
 unfold kidsAt
 exact Nat.le_trans (List.length_filter_le _ _) (by simp)
section
variable {l : List PI} {kids : List (List Int)}
theorem below_eq (hk : ∀ j, j < l.length → rdK kids j = (kidsAt l l.length j).map Int.ofNat) (r : List IV) (i : Nat) (hi : i < l.length) : belowI kids r i = (kidsAt l l.length i).map (fun k => rv r k) := by
 unfold belowI
 rw [hk i hi, List.map_map]
 rfl
theorem cutI_f0 (x : IV) (a b : Int) : (cutI x a b).f0 = max x.f0 a := by simp only [cutI, mx]; split <;> omega
theorem cutI_f1 (x : IV) (a b : Int) : (cutI x a b).f1 = min x.f1 b := by simp only [cutI, mn]; split <;> omega
structure UpAt (l : List PI) (r : List IV) (m : Nat) (u : List IV) : Prop where
 len : u.length = l.length
 old : ∀ j, j < m → rv u j = rv r j
 now : (∃ j, m ≤ j ∧ j < l.length ∧ Hi u j < Lo u j) ∧ (¬ ∃ x, Sol (netT l) (Lo r) (Hi r) x) ∨
  (∀ j, m ≤ j → j < l.length → (0 ≤ Lo u j ∧ Lo u j ≤ Hi u j ∧ Hi u j ≤ 1000000000 ∧ Lo r j ≤ Lo u j ∧ Hi u j ≤ Hi r j) ∧ (kidsAt l l.length j ≠ [] → sm (Lo u) (kidsAt l l.length j) ≤ Lo u j ∧ Hi u j ≤ sm (Hi u) (kidsAt l l.length j) + loP l j)) ∧
  (∀ x, Sol (netT l) (Lo r) (Hi r) x → ∀ j, m ≤ j → j < l.length → Lo u j ≤ x j ∧ x j ≤ Hi u j)
theorem up_step (hok : okL l) (hn : l.length ≤ 200) (hk : ∀ j, j < l.length → rdK kids j = (kidsAt l l.length j).map Int.ofNat) {r u : List IV} (hv : Vol l.length (Lo r) (Hi r)) {i : Nat} (hi : i < l.length) (h : UpAt l r (i + 1) u) :
  UpAt l r i (upStep l kids u i) := by
 have hil : i < u.length := by rw [h.len]; exact hi
 have hlo : (rd_T44 l i).f2 = loP l i := rfl
 unfold upStep
 rw [below_eq hk u i hi, List.length_map, hlo]
 by_cases hne : kidsAt l l.length i = []
 ·rw [hne]
  simp only [List.length_nil, Nat.lt_irrefl, if_false]
  refine ⟨h.len, fun j hj => h.old j (by omega), ?_⟩
  have e : rv u i = rv r i := h.old i (by omega)
  rcases h.now with ⟨⟨j, h1, h2, h3⟩, hs⟩ | ⟨ha, hs⟩
  ·exact .inl ⟨⟨j, by omega, h2, h3⟩, hs⟩
  ·refine .inr ⟨fun j h1 h2 => ?_, fun x hx j h1 h2 => ?_⟩
   ·by_cases hj : i + 1 ≤ j
    ·exact ha j hj h2
    ·have e2 : j = i := by omega
     subst e2
     have h4 := hv j h2
     refine ⟨?_, fun hc => absurd hne hc⟩
     simp only [Lo, Hi, e] at *
     omega
   ·by_cases hj : i + 1 ≤ j
    ·exact hs x hx j hj h2
    ·have e2 : j = i := by omega
     subst e2
     have h4 := hx.1 j h2
     simp only [Lo, Hi, e] at *
     exact h4
 ·have hpos : 0 < (kidsAt l l.length i).length := List.length_pos_iff.2 hne
  rw [if_pos hpos, Int.toNat_natCast]
  have hset : ∀ y j, rv (u.set i y) j = if i = j then y else rv u j := fun y j => rv_set u i j y hil
  have hkid : ∀ k ∈ kidsAt l l.length i, i + 1 ≤ k ∧ k < l.length := fun k hk' => by have := kidsAt_mem.1 hk'; exact ⟨by omega, by omega⟩
  rcases h.now with ⟨⟨j, h1, h2, h3⟩, hs⟩ | ⟨ha, hs⟩
  ·refine ⟨by rw [List.length_set]; exact h.len, fun j hj => by rw [hset, if_neg (by omega)]; exact h.old j (by omega), .inl ⟨⟨j, by omega, h2, ?_⟩, hs⟩⟩
   simp only [Lo, Hi, hset, if_neg (show ¬ i = j by omega)] at *
   exact h3
  ·have hL : totalF S59.f0 ((kidsAt l l.length i).map (fun k => rv u k)) = sm (Lo u) (kidsAt l l.length i) := by
    rw [total_eq _ _ _ (Nat.le_trans (kids_len l i) hn) (fun k hk' => by have := (ha k (hkid k hk').1 (hkid k hk').2).1; simp only [Lo, Hi] at this; omega)]
    rfl
   have hH : totalF S59.f1 ((kidsAt l l.length i).map (fun k => rv u k)) = sm (Hi u) (kidsAt l l.length i) := by
    rw [total_eq _ _ _ (Nat.le_trans (kids_len l i) hn) (fun k hk' => by have := (ha k (hkid k hk').1 (hkid k hk').2).1; simp only [Lo, Hi] at this; omega)]
    rfl
   have bH := sm_bound (f := Hi u) (ks := kidsAt l l.length i) (a := 0) (b := 1000000000) (fun k hk' => by have := (ha k (hkid k hk').1 (hkid k hk').2).1; omega)
   have bL := sm_bound (f := Lo u) (ks := kidsAt l l.length i) (a := 0) (b := 1000000000) (fun k hk' => by have := (ha k (hkid k hk').1 (hkid k hk').2).1; omega)
   have bl := kids_len l i
   have bo := (hok i hi).2.2.1
   rw [hL, hH, wrap_id (by omega) (by omega)]
   obtain ⟨y, hy⟩ : ∃ y, y = cutI (rd_T59 u i) (sm (Lo u) (kidsAt l l.length i)) (sm (Hi u) (kidsAt l l.length i) + loP l i) := ⟨_, rfl⟩
   rw [← hy]
   have hy0 : y.f0 = max (Lo u i) (sm (Lo u) (kidsAt l l.length i)) := by rw [hy, cutI_f0]; rfl
   have hy1 : y.f1 = min (Hi u i) (sm (Hi u) (kidsAt l l.length i) + loP l i) := by rw [hy, cutI_f1]; rfl
   have er : rv u i = rv r i := h.old i (by omega)
   have hri := hv i hi
   have hrl : Lo u i = Lo r i := by simp only [Lo, er]
   have hrh : Hi u i = Hi r i := by simp only [Hi, er]
   have hsol : ∀ x, Sol (netT l) (Lo r) (Hi r) x → y.f0 ≤ x i ∧ x i ≤ y.f1 := by
    intro x hx
    have h1 := hx.1 i hi
    have h2 := hx.2 i hi hne
    have h3 : sm (Lo u) (kidsAt l l.length i) ≤ sm x (kidsAt l l.length i) := sm_le (fun k hk' => (hs x hx k (hkid k hk').1 (hkid k hk').2).1)
    have h4 : sm x (kidsAt l l.length i) ≤ sm (Hi u) (kidsAt l l.length i) := sm_le (fun k hk' => (hs x hx k (hkid k hk').1 (hkid k hk').2).2)
    simp only [netT] at h2
    omega
   have old' : ∀ j, j < i → rv (u.set i y) j = rv r j := fun j hj => by rw [hset, if_neg (by omega)]; exact h.old j (by omega)
   have hne' : ∀ j, i ≠ j → Lo (u.set i y) j = Lo u j ∧ Hi (u.set i y) j = Hi u j := fun j hj => ⟨by simp only [Lo, hset, if_neg hj], by simp only [Hi, hset, if_neg hj]⟩
   have hi0 : Lo (u.set i y) i = y.f0 ∧ Hi (u.set i y) i = y.f1 := ⟨by simp only [Lo, hset, if_true], by simp only [Hi, hset, if_true]⟩
   have hkn : ∀ j, i ≤ j → ∀ k ∈ kidsAt l l.length j, i ≠ k := fun j hj k hk' => by have := kidsAt_mem.1 hk'; omega
   refine ⟨by rw [List.length_set]; exact h.len, old', ?_⟩
   by_cases hem : y.f0 ≤ y.f1
   ·refine .inr ⟨fun j h1 h2 => ?_, fun x hx j h1 h2 => ?_⟩
    ·have hsL : sm (Lo (u.set i y)) (kidsAt l l.length j) = sm (Lo u) (kidsAt l l.length j) := sm_congr (fun k hk' => (hne' k (hkn j h1 k hk')).1)
     have hsH : sm (Hi (u.set i y)) (kidsAt l l.length j) = sm (Hi u) (kidsAt l l.length j) := sm_congr (fun k hk' => (hne' k (hkn j h1 k hk')).2)
     rw [hsL, hsH]
     by_cases hj : i + 1 ≤ j
     ·rw [(hne' j (by omega)).1, (hne' j (by omega)).2]
      exact ha j hj h2
     ·have e2 : j = i := by omega
      subst e2
      rw [hi0.1, hi0.2]
      exact ⟨by omega, fun _ => by omega⟩
    ·by_cases hj : i + 1 ≤ j
     ·rw [(hne' j (by omega)).1, (hne' j (by omega)).2]
      exact hs x hx j hj h2
     ·have e2 : j = i := by omega
      subst e2
      rw [hi0.1, hi0.2]
      exact hsol x hx
   ·refine .inl ⟨⟨i, Nat.le_refl _, hi, by rw [hi0.1, hi0.2]; omega⟩, fun ⟨x, hx⟩ => ?_⟩
    have := hsol x hx
    omega
theorem up_fold (hok : okL l) (hn : l.length ≤ 200) (hk : ∀ j, j < l.length → rdK kids j = (kidsAt l l.length j).map Int.ofNat) {r : List IV} (hl : r.length = l.length) (hv : Vol l.length (Lo r) (Hi r)) :
  ∀ d, d ≤ l.length → UpAt l r (l.length - d) ((downTo l.length d).foldl (fun r (j : Nat) => upStep l kids r j) r) := by
 intro d
 induction d with
 | zero => intro _; exact ⟨hl, fun _ _ => rfl, .inr ⟨fun j h1 h2 => by omega, fun x _ j h1 h2 => by omega⟩⟩
 | succ d ih =>
  intro hd
  rw [downTo_succ, List.foldl_append]
  have h := ih (by omega)
  have e : l.length - d = (l.length - 1 - d) + 1 := by omega
  rw [e] at h
  have := up_step hok hn hk hv (i := l.length - 1 - d) (by omega) h
  rw [show l.length - (d + 1) = l.length - 1 - d by omega]
  exact this
theorem up_spec (hok : okL l) (hn : l.length ≤ 200) (hk : ∀ j, j < l.length → rdK kids j = (kidsAt l l.length j).map Int.ofNat) {r : List IV} (hl : r.length = l.length) (hv : Vol l.length (Lo r) (Hi r)) : UpAt l r 0 (upF l kids r) := by
 have := up_fold hok hn hk hl hv l.length (Nat.le_refl _)
 rw [Nat.sub_self] at this
 exact this
end
end Go.Proofs.Ytmojlpafpeeelaa.P
end
section
namespace Go.Proofs.Ytmojlpafpeeelaa.P
open Go.RowKit Go.Proofs.YtmojlpafpeeelaaW.PrintWords Go.Proofs.YtmojlpafpeeelaaW.PrintLast Go.Proofs.YtmojlpafpeeelaaW.PrintMore Go.Proofs.YtmojlpafpeeelaaH Go.Proofs.FlowTree
section
variable {l : List PI} {kids : List (List Int)}
theorem cuts (i : Nat) (lo hi : Int) (d : List IV) : ∀ (ks : List Nat) (e : List IV), ks.Nodup → i ∉ ks → (∀ k ∈ ks, k < e.length) → (∀ k ∈ ks, rv e k = rv d k) → rv e i = rv d i →
  (∀ j, j ∉ ks → rv ((ks.map Int.ofNat).foldl (downCut l i lo hi) e) j = rv e j) ∧
  (∀ k ∈ ks, rv ((ks.map Int.ofNat).foldl (downCut l i lo hi) e) k = cutI (rv d k) (wrap64 (wrap64 ((rv d i).f0 - loP l i) - wrap64 (hi - (rv d k).f1))) (wrap64 ((rv d i).f1 - wrap64 (lo - (rv d k).f0)))) := by
 intro ks
 induction ks with
 | nil => intro e _ _ _ _ _; exact ⟨fun _ _ => rfl, (fun k hk => by cases hk)⟩
 | cons k ks ih =>
  intro e hnd hi' hlen heq hei
  rw [List.nodup_cons] at hnd
  have hk : k < e.length := hlen k (by simp)
  have hset : ∀ y j, rv (e.set k y) j = if k = j then y else rv e j := fun y j => rv_set e k j y hk
  have hik : ¬ k = i := fun h => hi' (by simp [h])
  rw [List.map_cons, List.foldl_cons]
  obtain ⟨y, hy⟩ : ∃ y, y = cutI (rv d k) (wrap64 (wrap64 ((rv d i).f0 - loP l i) - wrap64 (hi - (rv d k).f1))) (wrap64 ((rv d i).f1 - wrap64 (lo - (rv d k).f0))) := ⟨_, rfl⟩
  have hstep : downCut l i lo hi e (Int.ofNat k) = e.set k y := by
   unfold downCut
   have e1 : rd_T59 e (Int.ofNat k) = rv d k := heq k (by simp)
   have e2 : rd_T59 e (i : Int) = rv d i := hei
   rw [e1, e2, hy]
   rfl
  rw [hstep]
  have h := ih (e.set k y) hnd.2 (fun h => hi' (List.mem_cons_of_mem _ h)) (fun j hj => by rw [List.length_set]; exact hlen j (List.mem_cons_of_mem _ hj))
   (fun j hj => by rw [hset, if_neg (fun hh : k = j => hnd.1 (by rw [hh]; exact hj))]; exact heq j (List.mem_cons_of_mem _ hj)) (by rw [hset, if_neg hik]; exact hei)
  refine ⟨fun j hj => ?_, fun j hj => ?_⟩
  ·rw [h.1 j (fun hh => hj (List.mem_cons_of_mem _ hh)), hset, if_neg (fun hh => hj (by simp [hh]))]
  ·rcases List.mem_cons.1 hj with rfl | hj'
   ·rw [h.1 j hnd.1, hset, if_pos rfl, hy]
   ·exact h.2 j hj'
structure DownAt (l : List PI) (r u : List IV) (m : Nat) (d : List IV) : Prop where
 len : d.length = l.length
 old : ∀ j, (∀ p, p < m → j ∉ kidsAt l l.length p) → rv d j = rv u j
 rng : ∀ j, j < l.length → Lo u j ≤ Lo d j ∧ Lo d j ≤ Hi d j ∧ Hi d j ≤ Hi u j
 cut : ∀ p, p < m → ∀ k ∈ kidsAt l l.length p, Lo d p - loP l p - (sm (Hi u) (kidsAt l l.length p) - Hi u k) ≤ Lo d k ∧ Hi d k ≤ Hi d p - (sm (Lo u) (kidsAt l l.length p) - Lo u k)
 sol : ∀ x, Sol (netT l) (Lo r) (Hi r) x → ∀ j, j < l.length → Lo d j ≤ x j ∧ x j ≤ Hi d j
structure UpOk (l : List PI) (r u : List IV) : Prop where
 len : u.length = l.length
 rng : ∀ j, j < l.length → 0 ≤ Lo u j ∧ Lo u j ≤ Hi u j ∧ Hi u j ≤ 1000000000 ∧ Lo r j ≤ Lo u j ∧ Hi u j ≤ Hi r j
 eq : ∀ j, j < l.length → kidsAt l l.length j ≠ [] → sm (Lo u) (kidsAt l l.length j) ≤ Lo u j ∧ Hi u j ≤ sm (Hi u) (kidsAt l l.length j) + loP l j
 sol : ∀ x, Sol (netT l) (Lo r) (Hi r) x → ∀ j, j < l.length → Lo u j ≤ x j ∧ x j ≤ Hi u j
theorem down_step (hok : okL l) (hn : l.length ≤ 200) (hk : ∀ j, j < l.length → rdK kids j = (kidsAt l l.length j).map Int.ofNat) {r u d : List IV} (hu : UpOk l r u) {i : Nat} (hi : i < l.length) (h : DownAt l r u i d) :
  DownAt l r u (i + 1) (downStep l kids d i) := by
 have hT := netT_ok hok
 have hkid : ∀ k ∈ kidsAt l l.length i, i < k ∧ k < l.length := fun k hk' => hT.lt i k hk'
 have hold : ∀ k ∈ kidsAt l l.length i, rv d k = rv u k := fun k hk' => h.old k (fun p hp hm => by have := hT.one i p k hk' hm; omega)
 have hLk : ∀ k ∈ kidsAt l l.length i, Lo d k = Lo u k := fun k hk' => by simp only [Lo, hold k hk']
 have hHk : ∀ k ∈ kidsAt l l.length i, Hi d k = Hi u k := fun k hk' => by simp only [Hi, hold k hk']
 have hL : totalF S59.f0 ((kidsAt l l.length i).map (fun k => rv d k)) = sm (Lo u) (kidsAt l l.length i) := by
  rw [total_eq _ _ _ (Nat.le_trans (kids_len l i) hn) (fun k hk' => by have h1 := hu.rng k (hkid k hk').2; have h2 := hold k hk'; simp only [Lo, Hi, h2] at *; omega)]
  exact sm_congr hLk
 have hH : totalF S59.f1 ((kidsAt l l.length i).map (fun k => rv d k)) = sm (Hi u) (kidsAt l l.length i) := by
  rw [total_eq _ _ _ (Nat.le_trans (kids_len l i) hn) (fun k hk' => by have h1 := hu.rng k (hkid k hk').2; have h2 := hold k hk'; simp only [Lo, Hi, h2] at *; omega)]
  exact sm_congr hHk
 have bH := sm_bound (f := Hi u) (ks := kidsAt l l.length i) (a := 0) (b := 1000000000) (fun k hk' => by have := hu.rng k (hkid k hk').2; omega)
 have bL := sm_bound (f := Lo u) (ks := kidsAt l l.length i) (a := 0) (b := 1000000000) (fun k hk' => by have := hu.rng k (hkid k hk').2; omega)
 have bl := kids_len l i
 have bo := (hok i hi).2.2.1
 have hinot : i ∉ kidsAt l l.length i := fun hm => by have := hkid i hm; omega
 have hun : downStep l kids d i = ((kidsAt l l.length i).map Int.ofNat).foldl (downCut l i (sm (Lo u) (kidsAt l l.length i)) (sm (Hi u) (kidsAt l l.length i))) d := by
  unfold downStep
  rw [below_eq hk d i hi, hL, hH, hk i hi]
 have hc := cuts (l := l) i (sm (Lo u) (kidsAt l l.length i)) (sm (Hi u) (kidsAt l l.length i)) d (kidsAt l l.length i) d (hT.nodup i) hinot (fun k hk' => by rw [h.len]; exact (hkid k hk').2) (fun _ _ => rfl) rfl
 rw [← hun] at hc
 obtain ⟨e, he⟩ : ∃ e, e = downStep l kids d i := ⟨_, rfl⟩
 rw [← he] at hc ⊢
 have elen : e.length = l.length := by rw [he, downStep_len, h.len]
 have hri := h.rng i hi
 have hui := hu.rng i hi
 have hnew : ∀ k ∈ kidsAt l l.length i, Lo e k = max (Lo u k) (Lo d i - loP l i - (sm (Hi u) (kidsAt l l.length i) - Hi u k)) ∧ Hi e k = min (Hi u k) (Hi d i - (sm (Lo u) (kidsAt l l.length i) - Lo u k)) ∧ Lo e k ≤ Hi e k := by
  intro k hk'
  have h1 := hc.2 k hk'
  have h2 := hu.rng k (hkid k hk').2
  have h3 := hu.eq i hi (fun hh => by rw [hh] at hk'; cases hk')
  obtain ⟨a, b, hab, hlo⟩ := sm_split (Lo u) hk'
  have hhi : sm (Hi u) (kidsAt l l.length i) = Hi u k + sm (Hi u) (a ++ b) := by rw [hab, sm_append, sm_append, sm_cons]; omega
  have hle : sm (Lo u) (a ++ b) ≤ sm (Hi u) (a ++ b) := sm_le (fun j hj => by
   have hj' : j ∈ kidsAt l l.length i := by
    rw [hab]
    rcases List.mem_append.1 hj with h' | h'
    ·exact List.mem_append.2 (.inl h')
    ·exact List.mem_append.2 (.inr (List.mem_cons_of_mem _ h'))
   have := hu.rng j (hkid j hj').2
   omega)
  have e0 : Lo e k = max (Lo u k) (Lo d i - loP l i - (sm (Hi u) (kidsAt l l.length i) - Hi u k)) := by
   have := congrArg S59.f0 h1
   rw [cutI_f0] at this
   have w1 : (rv d k).f1 = Hi u k := hHk k hk'
   have w2 : (rv d k).f0 = Lo u k := hLk k hk'
   have w3 : (rv d i).f0 = Lo d i := rfl
   rw [w1, w2, w3, wrap_id (n := Lo d i - loP l i) (by omega) (by omega), wrap_id (n := sm (Hi u) (kidsAt l l.length i) - Hi u k) (by omega) (by omega), wrap_id (by omega) (by omega)] at this
   exact this
  have e1 : Hi e k = min (Hi u k) (Hi d i - (sm (Lo u) (kidsAt l l.length i) - Lo u k)) := by
   have := congrArg S59.f1 h1
   rw [cutI_f1] at this
   have w1 : (rv d k).f1 = Hi u k := hHk k hk'
   have w2 : (rv d k).f0 = Lo u k := hLk k hk'
   have w3 : (rv d i).f1 = Hi d i := rfl
   rw [w1, w2, w3, wrap_id (n := sm (Lo u) (kidsAt l l.length i) - Lo u k) (by omega) (by omega), wrap_id (by omega) (by omega)] at this
   exact this
  refine ⟨e0, e1, ?_⟩
  omega
 have hsame : ∀ j, j ∉ kidsAt l l.length i → Lo e j = Lo d j ∧ Hi e j = Hi d j := fun j hj => by
  have := hc.1 j hj
  exact ⟨by simp only [Lo, this], by simp only [Hi, this]⟩
 refine ⟨elen, fun j hj => ?_, fun j hj => ?_, fun p hp k hk' => ?_, fun x hx j hj => ?_⟩
 ·rw [hc.1 j (hj i (by omega))]
  exact h.old j (fun p hp => hj p (by omega))
 ·by_cases hm : j ∈ kidsAt l l.length i
  ·have := hnew j hm
   omega
  ·have := hsame j hm
   have := h.rng j hj
   omega
 ·have hpi : p ∉ kidsAt l l.length i := fun hm => by have := (hkid p hm).1; omega
  have hp' := hsame p hpi
  by_cases h' : p < i
  ·have hki : k ∉ kidsAt l l.length i := fun hm => by have := hT.one i p k hm hk'; omega
   have := hsame k hki
   have := h.cut p h' k hk'
   omega
  ·have e2 : p = i := by omega
   subst e2
   have := hnew k hk'
   omega
 ·by_cases hm : j ∈ kidsAt l l.length i
  ·have h1 := hnew j hm
   have h2 := h.sol x hx i hi
   have h3 := hu.sol x hx j hj
   have hne : kidsAt l l.length i ≠ [] := fun hh => by rw [hh] at hm; cases hm
   have h4 := hx.2 i hi hne
   simp only [netT] at h4
   obtain ⟨a, b, hab, hlo⟩ := sm_split (Lo u) hm
   have hhi : sm (Hi u) (kidsAt l l.length i) = Hi u j + sm (Hi u) (a ++ b) := by rw [hab, sm_append, sm_append, sm_cons]; omega
   have hxx : sm x (kidsAt l l.length i) = x j + sm x (a ++ b) := by rw [hab, sm_append, sm_append, sm_cons]; omega
   have hmem : ∀ q ∈ a ++ b, q < l.length := fun q hq => (hkid q (by
    rw [hab]
    rcases List.mem_append.1 hq with h' | h'
    ·exact List.mem_append.2 (.inl h')
    ·exact List.mem_append.2 (.inr (List.mem_cons_of_mem _ h')))).2
   have l1 : sm (Lo u) (a ++ b) ≤ sm x (a ++ b) := sm_le (fun q hq => (hu.sol x hx q (hmem q hq)).1)
   have l2 : sm x (a ++ b) ≤ sm (Hi u) (a ++ b) := sm_le (fun q hq => (hu.sol x hx q (hmem q hq)).2)
   omega
  ·have := hsame j hm
   have := h.sol x hx j hj
   omega
theorem down_fold (hok : okL l) (hn : l.length ≤ 200) (hk : ∀ j, j < l.length → rdK kids j = (kidsAt l l.length j).map Int.ofNat) {r u : List IV} (hu : UpOk l r u) :
  ∀ m, m ≤ l.length → DownAt l r u m ((List.range m).foldl (fun r (j : Nat) => downStep l kids r j) u) := by
 intro m
 induction m with
 | zero => intro _; exact ⟨hu.len, fun _ _ => rfl, fun j hj => by have := hu.rng j hj; simp only [List.range_zero, List.foldl_nil]; omega, fun p hp => absurd hp (Nat.not_lt_zero _), hu.sol⟩
 | succ m ih =>
  intro hm
  rw [foldl_range_succ]
  exact down_step hok hn hk hu (by omega) (ih (by omega))
structure Exact (l : List PI) (lo hi : Nat → Int) (d : List IV) : Prop where
 len : d.length = l.length
 rng : ∀ j, j < l.length → 0 ≤ Lo d j ∧ Lo d j ≤ Hi d j ∧ Hi d j ≤ 1000000000 ∧ lo j ≤ Lo d j ∧ Hi d j ≤ hi j
 sol : ∀ x, Sol (netT l) lo hi x → ∀ j, j < l.length → Lo d j ≤ x j ∧ x j ≤ Hi d j
 had : ∀ j, j < l.length → ∀ v, Lo d j ≤ v → v ≤ Hi d j → ∃ x, Sol (netT l) lo hi x ∧ x j = v
theorem any_empty (u : List IV) : u.any emptyI = true ↔ ∃ j, j < u.length ∧ Hi u j < Lo u j := by
 rw [List.any_eq_true]
 constructor
 ·rintro ⟨x, hx, he⟩
  obtain ⟨j, hj, rfl⟩ := List.mem_iff_getElem.1 hx
  refine ⟨j, hj, ?_⟩
  simp only [emptyI, decide_eq_true_eq] at he
  simp only [Lo, Hi, rv, rd_T59, Int.toNat_natCast, List.getD_eq_getElem?_getD, List.getElem?_eq_getElem hj, Option.getD_some]
  omega
 ·rintro ⟨j, hj, h⟩
  refine ⟨u[j], List.getElem_mem hj, ?_⟩
  simp only [Lo, Hi, rv, rd_T59, Int.toNat_natCast, List.getD_eq_getElem?_getD, List.getElem?_eq_getElem hj, Option.getD_some] at h
  simp only [emptyI, decide_eq_true_eq]
  omega
theorem boundsF_spec (hok : okL l) (hn : l.length ≤ 200) (hk : ∀ j, j < l.length → rdK kids j = (kidsAt l l.length j).map Int.ofNat) {r : List IV} (hl : r.length = l.length) (hv : Vol l.length (Lo r) (Hi r)) :
  ((boundsF l kids r).1 = false ∧ ¬ ∃ x, Sol (netT l) (Lo r) (Hi r) x) ∨ ((boundsF l kids r).1 = true ∧ Exact l (Lo r) (Hi r) (boundsF l kids r).2) := by
 have h := up_spec hok hn hk hl hv
 unfold boundsF
 rcases h.now with ⟨⟨j, h1, h2, h3⟩, hs⟩ | ⟨ha, hs⟩
 ·rw [if_pos ((any_empty _).2 ⟨j, by rw [h.len]; exact h2, h3⟩)]
  exact .inl ⟨rfl, hs⟩
 ·have hno : ¬ (upF l kids r).any emptyI = true := fun hh => by
   obtain ⟨j, hj, h3⟩ := (any_empty _).1 hh
   rw [h.len] at hj
   have := (ha j (Nat.zero_le _) hj).1
   omega
  rw [if_neg hno]
  have hu : UpOk l r (upF l kids r) := ⟨h.len, fun j hj => (ha j (Nat.zero_le _) hj).1, fun j hj => (ha j (Nat.zero_le _) hj).2, fun x hx j hj => hs x hx j (Nat.zero_le _) hj⟩
  have hd := down_fold hok hn hk hu l.length (Nat.le_refl _)
  have hd' : DownAt l r (upF l kids r) l.length (downF l kids (upF l kids r)) := hd
  have hno2 : ¬ (downF l kids (upF l kids r)).any emptyI = true := fun hh => by
   obtain ⟨j, hj, h3⟩ := (any_empty _).1 hh
   rw [hd'.len] at hj
   have := hd'.rng j hj
   omega
  rw [if_neg hno2]
  refine .inr ⟨rfl, hd'.len, fun j hj => ?_, hd'.sol, fun j hj v h1 h2 => ?_⟩
  ·have := hd'.rng j hj
   have := hu.rng j hj
   dsimp only
   omega
  ·obtain ⟨x, hx, hxv⟩ := exact (netT l) (netT_ok hok) (Lo (upF l kids r)) (Hi (upF l kids r)) (Lo (downF l kids (upF l kids r))) (Hi (downF l kids (upF l kids r))) (fun i hi => (hu.rng i hi).2.1) (fun i hi hne => hu.eq i hi hne)
    (fun i hi => hd'.rng i hi) (fun i hi k hk' => hd'.cut i hi k hk') j hj v h1 h2
   exact ⟨x, ⟨fun i hi => by have := hx.1 i hi; have := hu.rng i hi; omega, hx.2⟩, hxv⟩
end
end Go.Proofs.Ytmojlpafpeeelaa.P
end
section
namespace Go.Proofs.Ytmojlpafpeeelaa.P
open Go.RowKit Go.Proofs.YtmojlpafpeeelaaW.PrintWords Go.Proofs.YtmojlpafpeeelaaW.PrintLast Go.Proofs.YtmojlpafpeeelaaW.PrintMore Go.Proofs.YtmojlpafpeeelaaH Go.Proofs.FlowTree
open Classical
def Ev {α : Type} (f : Nat → Option α) (r : α) : Prop := ∃ k0, ∀ k, k0 ≤ k → f k = some r
theorem Ev.step {α : Type} {f : Nat → Option α} {r : α} (h : Ev (fun k => f (k + 1)) r) : Ev f r := by
 obtain ⟨k0, h⟩ := h
 refine ⟨k0 + 1, fun k hk => ?_⟩
 obtain ⟨k, rfl⟩ : ∃ m, k = m + 1 := ⟨k - 1, by omega⟩
 exact h k (by omega)
theorem Ev.pure {α : Type} (r : α) : Ev (fun _ => some r) r := ⟨0, fun _ _ => rfl⟩
theorem Ev.bnd {α β : Type} {f : Nat → Option β} {g : β → Nat → Option α} {b : β} {r : α} (hf : Ev f b) (hg : Ev (g b) r) : Ev (fun k => (f k).bind fun t => g t k) r := by
 obtain ⟨k0, h⟩ := hf
 obtain ⟨k1, h1⟩ := hg
 refine ⟨max k0 k1, fun k hk => ?_⟩
 show (f k).bind _ = _
 rw [h k (by omega)]
 exact h1 k (by omega)
theorem wrap_nat {n : Nat} (h : n ≤ 140737488355328) : wrap64 ((n : Int) + 1) = ((n + 1 : Nat) : Int) := by unfold wrap64; omega
abbrev RG := S39
theorem idP_take (l : List PI) (m j : Nat) (h : j < m) : idP (l.take m) j = idP l j := by
 simp only [idP, rd_T44, Int.toNat_natCast, List.getD_eq_getElem?_getD, List.getElem?_take, if_pos h]
theorem at_l0 (l : List PI) (a : Int) (hB : l.length ≤ 140737488355328) : ∀ (d i : Nat), i + d = l.length → ∃ v : Int, Ev (fun k => cohousingref28_At.l0 k l a (i : Int)) v ∧ (v < 0 ↔ ∀ j, i ≤ j → j < l.length → idP l j ≠ a) := by
 intro d
 induction d with
 | zero =>
  intro i hi
  have h1 : ¬ ((i : Int) < (l.length : Int)) := by omega
  refine ⟨-1, Ev.step ?_, ⟨fun _ j h2 h3 => by omega, fun _ => by omega⟩⟩
  simp only [cohousingref28_At.l0, h1, if_false]
  exact Ev.pure _
 | succ d ih =>
  intro i hi
  have h1 : ((i : Int) < (l.length : Int)) := by omega
  have h2 : (0 : Int) ≤ (i : Int) := by omega
  by_cases he : (rd_T44 l (i : Int)).f0 = a
  ·refine ⟨(i : Int), Ev.step ?_, ⟨fun h => by omega, fun h => absurd he (h i (Nat.le_refl _) (by omega))⟩⟩
   simp only [cohousingref28_At.l0, h1, h2, he, if_true]
   exact Ev.pure _
  ·obtain ⟨v, hv, hs⟩ := ih (i + 1) (by omega)
   refine ⟨v, Ev.step ?_, ?_⟩
   ·simp only [cohousingref28_At.l0, h1, h2, he, if_true, if_false, wrap_nat (show i ≤ 140737488355328 by omega)]
    exact hv
   ·rw [hs]
    constructor
    ·intro h j h3 h4
     by_cases e : j = i
     ·subst e; exact he
     ·exact h j (by omega) h4
    ·intro h j h3 h4
     exact h j (by omega) h4
theorem at_f (l : List PI) (a : Int) (hB : l.length ≤ 140737488355328) : ∃ v : Int, Ev (fun k => cohousingref28_At.f k l a) v ∧ (v < 0 ↔ ∀ j, j < l.length → idP l j ≠ a) := by
 obtain ⟨v, hv, hs⟩ := at_l0 l a hB l.length 0 (by omega)
 exact ⟨v, hv, hs.trans ⟨fun h j hj => h j (Nat.zero_le _) hj, fun h j _ hj => h j hj⟩⟩
theorem volume_dec (n : Int) : cohousingref28_Volume.f n = some (decide (0 ≤ n ∧ n ≤ 1000000000)) := by
 unfold cohousingref28_Volume.f
 (repeat' split) <;> simp_all <;> omega
theorem valid_j1 (l : List PI) (hB : l.length ≤ 140737488355328) (i : Nat) (hi : i < l.length) (b R : Bool) (hb : b = decide (¬ (1 ≤ idP l i ∧ (0 < i → idP l (i - 1) < idP l i) ∧ (0 ≤ loP l i ∧ loP l i ≤ 1000000000))))
  (hyes : okP l i → Ev (fun k => cohousingref28_Valid.l0 k l ((i + 1 : Nat) : Int)) R) (hno : ¬ okP l i → R = false) : Ev (fun k => cohousingref28_Valid.j1 k l (i : Int) b) R := by
 refine Ev.step ?_
 have h1 : ((i : Int) < (l.length : Int)) := by omega
 have h2 : (0 : Int) ≤ (i : Int) := by omega
 have h3 : ((i : Int) ≤ (l.length : Int)) := by omega
 cases b with
 | true =>
  have hbad := of_decide_eq_true hb.symm
  rw [hno (fun h => hbad ⟨h.1, h.2.1, h.2.2.1⟩)]
  simp only [cohousingref28_Valid.j1, if_true]
  exact Ev.pure _
 | false =>
  have hgood := Decidable.not_not.1 (of_decide_eq_false hb.symm)
  simp only [cohousingref28_Valid.j1, h1, h2, h3, if_true, Bool.false_eq_true, if_false, wrap_nat (show i ≤ 140737488355328 by omega), Int.toNat_natCast]
  by_cases ha : (rd_T44 l (i : Int)).f1 = 0
  ·simp only [ha, if_true]
   exact hyes ⟨hgood.1, hgood.2.1, hgood.2.2, fun h => absurd ha h⟩
  ·simp only [ha, if_false]
   have hlen : (l.take i).length = i := by rw [List.length_take]; omega
   obtain ⟨v, hv, hs⟩ := at_f (l.take i) (rd_T44 l (i : Int)).f1 (by omega)
   refine Ev.bnd hv ?_
   rw [hlen] at hs
   by_cases hv0 : v < 0
   ·simp only [hv0, if_true]
    have h4 := hs.1 hv0
    rw [hno (fun h => by
     obtain ⟨j, hj, e⟩ := h.2.2.2 ha
     exact h4 j hj ((idP_take l i j hj).trans e))]
    exact Ev.pure _
   ·simp only [hv0, if_false]
    refine hyes ⟨hgood.1, hgood.2.1, hgood.2.2, fun _ => ?_⟩
    by_cases hex : ∃ j, j < i ∧ idP l j = abP l i
    ·exact hex
    ·refine absurd (hs.2 (fun j hj e => hex ⟨j, hj, ?_⟩)) hv0
     rw [idP_take l i j hj] at e
     exact e
theorem valid_l0 (l : List PI) (hB : l.length ≤ 140737488355328) : ∀ (d i : Nat), i + d = l.length → Ev (fun k => cohousingref28_Valid.l0 k l (i : Int)) (decide (∀ j, i ≤ j → j < l.length → okP l j) && decide (l.length ≤ 200)) := by
 intro d
 induction d with
 | zero =>
  intro i hi
  have h1 : ¬ ((i : Int) < (l.length : Int)) := by omega
  refine Ev.step ?_
  simp only [cohousingref28_Valid.l0, h1, if_false]
  rw [decide_eq_true (show ∀ j, i ≤ j → j < l.length → okP l j from fun j h2 h3 => by omega), Bool.true_and]
  rw [show decide ((l.length : Int) ≤ 200) = decide (l.length ≤ 200) from decide_eq_decide.2 (by omega)]
  exact Ev.pure _
 | succ d ih =>
  intro i hi
  have h1 : ((i : Int) < (l.length : Int)) := by omega
  have h2 : (0 : Int) ≤ (i : Int) := by omega
  obtain ⟨R, hR⟩ : ∃ R, R = (decide (∀ j, i ≤ j → j < l.length → okP l j) && decide (l.length ≤ 200)) := ⟨_, rfl⟩
  rw [← hR]
  have hyes : okP l i → Ev (fun k => cohousingref28_Valid.l0 k l ((i + 1 : Nat) : Int)) R := fun ho => by
   have e : decide (∀ j, i ≤ j → j < l.length → okP l j) = decide (∀ j, i + 1 ≤ j → j < l.length → okP l j) := decide_eq_decide.2 ⟨fun h j h3 h4 => h j (by omega) h4, fun h j h3 h4 => by
    by_cases e : j = i
    ·subst e; exact ho
    ·exact h j (by omega) h4⟩
   rw [hR, e]
   exact ih (i + 1) (by omega)
  have hno : ¬ okP l i → R = false := fun hn => by
   rw [hR, decide_eq_false (fun h => hn (h i (Nat.le_refl _) (by omega))), Bool.false_and]
  refine Ev.step ?_
  simp only [cohousingref28_Valid.l0, h1, h2, if_true]
  by_cases c1 : (rd_T44 l (i : Int)).f0 < 1
  ·simp only [c1, if_true]
   exact valid_j1 l hB i (by omega) true R (by symm; apply decide_eq_true; intro h; have := h.1; simp only [idP] at this; omega) hyes hno
  ·simp only [c1, if_false]
   by_cases c2 : (i : Int) > 0
   ·have e : wrap64 ((i : Int) - 1) = ((i - 1 : Nat) : Int) := by unfold wrap64; omega
    have h3 : (0 : Int) ≤ ((i - 1 : Nat) : Int) := by omega
    have h4 : (((i - 1 : Nat) : Int) < (l.length : Int)) := by omega
    simp only [c2, if_true, e, h3, h4]
    by_cases c3 : (rd_T44 l (i : Int)).f0 ≤ (rd_T44 l ((i - 1 : Nat) : Int)).f0
    ·simp only [c3, if_true]
     exact valid_j1 l hB i (by omega) true R (by symm; apply decide_eq_true; intro h; have := h.2.1 (by omega); simp only [idP] at this; omega) hyes hno
    ·simp only [c3, if_false, volume_dec, Option.bind_some]
     refine valid_j1 l hB i (by omega) _ R ?_ hyes hno
     rw [← decide_not]
     apply decide_eq_decide.2
     simp only [idP, loP]
     constructor
     ·intro h h'; exact h h'.2.2
     ·intro h h'; exact h ⟨by omega, fun _ => by omega, h'⟩
   ·simp only [c2, if_false, volume_dec, Option.bind_some]
    refine valid_j1 l hB i (by omega) _ R ?_ hyes hno
    rw [← decide_not]
    apply decide_eq_decide.2
    simp only [idP, loP]
    constructor
    ·intro h h'; exact h h'.2.2
    ·intro h h'; exact h ⟨by omega, fun h0 => by omega, h'⟩
theorem valid_f (l : List PI) (hB : l.length ≤ 140737488355328) : Ev (fun k => cohousingref28_Valid.f k l) (decide (okL l ∧ l.length ≤ 200)) := by
 have := valid_l0 l hB l.length 0 (by omega)
 rw [show decide (okL l ∧ l.length ≤ 200) = (decide (∀ j, 0 ≤ j → j < l.length → okP l j) && decide (l.length ≤ 200)) from by
  rw [Bool.decide_and]
  congr 1
  exact decide_eq_decide.2 ⟨fun h j _ hj => h j hj, fun h j hj => h j (Nat.zero_le _) hj⟩]
 exact this
theorem range_split (i n : Nat) (h : i < n) : List.range n = List.range (i + 1) ++ List.range' (i + 1) (n - (i + 1)) := by
 rw [List.range_eq_range', List.range_eq_range', show n = (i + 1) + (n - (i + 1)) by omega, ← List.range'_append]
 simp
theorem kidsAt_range (l : List PI) (i : Nat) (h : i < l.length) : kidsAt l l.length i = (List.range' (i + 1) (l.length - (i + 1))).filter (fun k => decide (abP l k = idP l i)) := by
 unfold kidsAt
 rw [range_split i l.length h, List.filter_append]
 have e1 : (List.range (i + 1)).filter (fun k => decide (i < k) && decide (abP l k = idP l i)) = [] := by
  rw [List.filter_eq_nil_iff]
  intro k hk
  have := List.mem_range.1 hk
  simp; omega
 rw [e1, List.nil_append]
 apply List.filter_congr
 intro k hk
 have := List.mem_range'.1 hk
 obtain ⟨j, hj, e⟩ := this
 rw [decide_eq_true (show i < k by omega), Bool.true_and]
theorem below_l0' (l : List PI) (hB : l.length ≤ 200) (i : Nat) (hi : i < l.length) : ∀ (d x : Nat) (acc : List Int), x + d = l.length → acc.length ≤ x →
  Ev (fun k => cohousingref28_below.l0 k l (i : Int) acc (x : Int)) (acc ++ ((List.range' x d).filter (fun k => decide (abP l k = idP l i))).map Int.ofNat) := by
 intro d
 induction d with
 | zero =>
  intro x acc hx _
  have h1 : ¬ ((x : Int) < (l.length : Int)) := by omega
  refine Ev.step ?_
  simp only [cohousingref28_below.l0, h1, if_false, List.range'_zero, List.filter_nil, List.map_nil, List.append_nil]
  exact Ev.pure _
 | succ d ih =>
  intro x acc hx ha
  have h1 : ((x : Int) < (l.length : Int)) := by omega
  have h2 : (0 : Int) ≤ (x : Int) := by omega
  have h3 : (0 : Int) ≤ (i : Int) := by omega
  have h4 : ((i : Int) < (l.length : Int)) := by omega
  refine Ev.step ?_
  rw [List.range'_succ]
  by_cases hc : (rd_T44 l (x : Int)).f1 = (rd_T44 l (i : Int)).f0
  ·have h5 : acc.length < 17592186044416 := by omega
   ·simp only [cohousingref28_below.l0, h1, h2, h3, h4, h5, hc, if_true, wrap_nat (show x ≤ 140737488355328 by omega)]
    rw [List.filter_cons_of_pos (by simpa using hc)]
    have := ih (x + 1) (acc ++ [(x : Int)]) (by omega) (by simp; omega)
    rw [List.append_assoc] at this
    exact this
  ·simp only [cohousingref28_below.l0, h1, h2, h3, h4, hc, if_true, if_false, wrap_nat (show x ≤ 140737488355328 by omega)]
   rw [List.filter_cons_of_neg (by simpa using hc)]
   exact ih (x + 1) acc (by omega) (by omega)
theorem below_f' (l : List PI) (hB : l.length ≤ 200) (i : Nat) (hi : i < l.length) : Ev (fun k => cohousingref28_below.f k l (i : Int)) ((kidsAt l l.length i).map Int.ofNat) := by
 have := below_l0' l hB i hi (l.length - (i + 1)) (i + 1) [] (by omega) (by simp)
 rw [kidsAt_range l i hi]
 unfold cohousingref28_below.f
 rw [wrap_nat (by omega)]
 rw [List.nil_append] at this
 exact this
abbrev rr (r : List RG) (i : Nat) : RG := rd_T39 r i
theorem rv_toI (r : List RG) (i : Nat) : rv (r.map toI) i = toI (rr r i) := by
 simp only [rv, rr, rd_T59, rd_T39, Int.toNat_natCast, List.getD_eq_getElem?_getD, List.getElem?_map]
 cases r[i]? <;> rfl
theorem Lo_toI (r : List RG) (i : Nat) : Lo (r.map toI) i = (rr r i).f0 := by unfold Lo; rw [rv_toI]; rfl
theorem Hi_toI (r : List RG) (i : Nat) : Hi (r.map toI) i = (rr r i).f1 := by unfold Hi; rw [rv_toI]; rfl
theorem empty_l0 (r : List RG) (hB : r.length ≤ 140737488355328) : ∀ (d i : Nat), i + d = r.length → Ev (fun k => cohousingref28_empty.l0 k r (i : Int)) (decide (∃ j, i ≤ j ∧ j < r.length ∧ (rr r j).f1 < (rr r j).f0)) := by
 intro d
 induction d with
 | zero =>
  intro i hi
  have h1 : ¬ ((i : Int) < (r.length : Int)) := by omega
  refine Ev.step ?_
  simp only [cohousingref28_empty.l0, h1, if_false]
  rw [decide_eq_false (by rintro ⟨j, h2, h3, _⟩; omega)]
  exact Ev.pure _
 | succ d ih =>
  intro i hi
  have h1 : ((i : Int) < (r.length : Int)) := by omega
  have h2 : (0 : Int) ≤ (i : Int) := by omega
  refine Ev.step ?_
  by_cases hc : (rd_T39 r (i : Int)).f0 > (rd_T39 r (i : Int)).f1
  ·simp only [cohousingref28_empty.l0, h1, h2, hc, if_true]
   rw [decide_eq_true ⟨i, Nat.le_refl _, by omega, hc⟩]
   exact Ev.pure _
  ·simp only [cohousingref28_empty.l0, h1, h2, hc, if_true, if_false, wrap_nat (show i ≤ 140737488355328 by omega)]
   have := ih (i + 1) (by omega)
   rw [show decide (∃ j, i ≤ j ∧ j < r.length ∧ (rr r j).f1 < (rr r j).f0) = decide (∃ j, i + 1 ≤ j ∧ j < r.length ∧ (rr r j).f1 < (rr r j).f0) from decide_eq_decide.2 ⟨fun ⟨j, h3, h4, h5⟩ => ⟨j, by
    by_cases e : j = i
    ·subst e; exact absurd h5 hc
    ·omega, h4, h5⟩, fun ⟨j, h3, h4, h5⟩ => ⟨j, by omega, h4, h5⟩⟩]
   exact this
theorem empty_f (r : List RG) (hB : r.length ≤ 140737488355328) : Ev (fun k => cohousingref28_empty.f k r) (decide (∃ j, j < r.length ∧ (rr r j).f1 < (rr r j).f0)) := by
 have := empty_l0 r hB r.length 0 (by omega)
 rw [show decide (∃ j, j < r.length ∧ (rr r j).f1 < (rr r j).f0) = decide (∃ j, 0 ≤ j ∧ j < r.length ∧ (rr r j).f1 < (rr r j).f0) from decide_eq_decide.2 ⟨fun ⟨j, h⟩ => ⟨j, Nat.zero_le _, h⟩, fun ⟨j, _, h⟩ => ⟨j, h⟩⟩]
 exact this
theorem same_l0 (a b : List RG) (hB : a.length ≤ 140737488355328) (hl : a.length = b.length) : ∀ (d i : Nat), i + d = a.length → Ev (fun k => cohousingref28_Same.l0 k a b (i : Int)) (decide (∀ j, i ≤ j → j < a.length → rr a j = rr b j)) := by
 intro d
 induction d with
 | zero =>
  intro i hi
  have h1 : ¬ ((i : Int) < (a.length : Int)) := by omega
  refine Ev.step ?_
  simp only [cohousingref28_Same.l0, h1, if_false]
  rw [decide_eq_true (fun j h2 h3 => by omega)]
  exact Ev.pure _
 | succ d ih =>
  intro i hi
  have h1 : ((i : Int) < (a.length : Int)) := by omega
  have h2 : (0 : Int) ≤ (i : Int) := by omega
  have h3 : ((i : Int) < (b.length : Int)) := by omega
  refine Ev.step ?_
  by_cases hc : rr a i = rr b i
  ·have hc' : (!(((rd_T39 a (i : Int)).f0) == ((rd_T39 b (i : Int)).f0)) || (!(((rd_T39 a (i : Int)).f1) == ((rd_T39 b (i : Int)).f1)))) = false := by
    have : rd_T39 a (i : Int) = rd_T39 b (i : Int) := hc
    rw [this]; simp
   simp only [cohousingref28_Same.l0, h1, h2, h3, hc', if_true, if_false, Bool.false_eq_true, wrap_nat (show i ≤ 140737488355328 by omega)]
   have := ih (i + 1) (by omega)
   rw [show decide (∀ j, i ≤ j → j < a.length → rr a j = rr b j) = decide (∀ j, i + 1 ≤ j → j < a.length → rr a j = rr b j) from decide_eq_decide.2 ⟨fun h j h4 h5 => h j (by omega) h5, fun h j h4 h5 => by
    by_cases e : j = i
    ·subst e; exact hc
    ·exact h j (by omega) h5⟩]
   exact this
  ·have hc' : (!(((rd_T39 a (i : Int)).f0) == ((rd_T39 b (i : Int)).f0)) || (!(((rd_T39 a (i : Int)).f1) == ((rd_T39 b (i : Int)).f1)))) = true := by
    rw [Bool.or_eq_true, Bool.not_eq_true', Bool.not_eq_true', beq_eq_false_iff_ne, beq_eq_false_iff_ne]
    by_cases h4 : (rd_T39 a (i : Int)).f0 = (rd_T39 b (i : Int)).f0
    ·refine .inr (fun h5 => hc ?_)
     show rd_T39 a (i : Int) = rd_T39 b (i : Int)
     cases ha : rd_T39 a (i : Int)
     cases hb : rd_T39 b (i : Int)
     rw [ha, hb] at h4 h5
     simp only at h4 h5
     rw [h4, h5]
    ·exact .inl h4
   simp only [cohousingref28_Same.l0, h1, h2, h3, hc', if_true]
   rw [decide_eq_false (fun h => hc (h i (Nat.le_refl _) (by omega)))]
   exact Ev.pure _
theorem rr_ext {a b : List RG} (hl : a.length = b.length) (h : ∀ j, j < a.length → rr a j = rr b j) : a = b := by
 apply List.ext_getElem hl
 intro i h1 h2
 have := h i h1
 simp only [rr, rd_T39, Int.toNat_natCast, List.getD_eq_getElem?_getD, List.getElem?_eq_getElem h1, List.getElem?_eq_getElem h2, Option.getD_some] at this
 exact this
theorem same_f (a b : List RG) (hB : a.length ≤ 140737488355328) : Ev (fun k => cohousingref28_Same.f k a b) (decide (a = b)) := by
 unfold cohousingref28_Same.f
 by_cases hl : a.length = b.length
 ·have h1 : (a.length : Int) = (b.length : Int) := by omega
  simp only [h1, if_true]
  have := same_l0 a b hB hl a.length 0 (by omega)
  rw [show decide (a = b) = decide (∀ j, 0 ≤ j → j < a.length → rr a j = rr b j) from decide_eq_decide.2 ⟨fun h j _ _ => by rw [h], fun h => rr_ext hl (fun j hj => h j (Nat.zero_le _) hj)⟩]
  exact this
 ·have h1 : ¬ (a.length : Int) = (b.length : Int) := by omega
  simp only [h1, if_false]
  rw [decide_eq_false (fun h => hl (by rw [h]))]
  exact Ev.pure _
end Go.Proofs.Ytmojlpafpeeelaa.P
end
section
namespace Go.Proofs.Ytmojlpafpeeelaa.P
open Go.RowKit Go.Proofs.YtmojlpafpeeelaaW.PrintWords Go.Proofs.YtmojlpafpeeelaaW.PrintLast Go.Proofs.YtmojlpafpeeelaaW.PrintMore Go.Proofs.YtmojlpafpeeelaaH Go.Proofs.FlowTree
open Classical
def lo9 (r : List RG) (j : Nat) : Int := (rr r j).f0
def hi9 (r : List RG) (j : Nat) : Int := (rr r j).f1
theorem mx_max (a b : Int) : mx a b = max a b := by unfold mx; split <;> omega
theorem mn_min (a b : Int) : mn a b = min a b := by unfold mn; split <;> omega
section
variable (l : List PI) (r : List RG) (i : Nat)
def sL : Int := sm (lo9 r) (kidsAt l l.length i)
def sH : Int := sm (hi9 r) (kidsAt l l.length i)
def ownA : Int := max (lo9 r i) (sL l r i)
def ownB : Int := min (hi9 r i) (sH l r i + loP l i)
def eqAt (j : Nat) : RG :=
 if j = i then ⟨ownA l r i, ownB l r i⟩ else
 if i < j ∧ abP l j = idP l i then ⟨max (lo9 r j) (ownA l r i - loP l i - (sH l r i - hi9 r j)), min (hi9 r j) (ownB l r i - (sL l r i - lo9 r j))⟩ else rr r j
end
theorem take_sm (f : Nat → Int) (ks : List Nat) (x : Nat) (h : x < ks.length) : sm f (ks.take (x + 1)) = sm f (ks.take x) + f ks[x] := by
 rw [List.take_succ_eq_append_getElem h, sm_append, sm_cons, sm_nil]; omega
theorem rd_ofNat (ks : List Nat) (x : Nat) (h : x < ks.length) : rd (ks.map Int.ofNat) (x : Int) = (ks[x] : Int) := by
 simp [rd, List.getD_eq_getElem?_getD, h]
theorem sm_take_le {f : Nat → Int} {ks : List Nat} {B : Int} (h : ∀ k ∈ ks, 0 ≤ f k ∧ f k ≤ B) (x : Nat) : 0 ≤ sm f (ks.take x) ∧ sm f (ks.take x) ≤ sm f ks := by
 have h1 : 0 ≤ sm f (ks.take x) := sm_nonneg (fun k hk => (h k (List.mem_of_mem_take hk)).1)
 have h2 : 0 ≤ sm f (ks.drop x) := sm_nonneg (fun k hk => (h k (List.mem_of_mem_drop hk)).1)
 have h3 : sm f ks = sm f (ks.take x) + sm f (ks.drop x) := by rw [← sm_append, List.take_append_drop]
 omega
section
variable {l : List PI} {r : List RG} {i : Nat}
theorem sums_bound (hn : l.length ≤ 200) (hv : Vol l.length (lo9 r) (hi9 r)) : (0 ≤ sL l r i ∧ sL l r i ≤ 200000000000) ∧ (0 ≤ sH l r i ∧ sH l r i ≤ 200000000000) := by
 have hk : ∀ k ∈ kidsAt l l.length i, k < l.length := fun k hk => (kidsAt_mem.1 hk).1
 have bL := sm_bound (f := lo9 r) (ks := kidsAt l l.length i) (a := 0) (b := 1000000000) (fun k hk' => by have := hv k (hk k hk'); omega)
 have bH := sm_bound (f := hi9 r) (ks := kidsAt l l.length i) (a := 0) (b := 1000000000) (fun k hk' => by have := hv k (hk k hk'); omega)
 have bl := kids_len l i
 unfold sL sH
 omega
set_option maxHeartbeats 1000000 in
theorem eq_l1 (hok : okL l) (hn : l.length ≤ 200) (hr : r.length = l.length) (hv : Vol l.length (lo9 r) (hi9 r)) (hi : i < l.length) : ∀ (d x : Nat) (acc : List RG), x + d = l.length → acc.length = x →
  Ev (fun k => cohousingref28_equation.l1 k l r (i : Int) (sL l r i) (sH l r i) acc (x : Int) (ownA l r i) (ownB l r i)) (acc ++ (List.range' x d).map (eqAt l r i)) := by
 intro d
 have hb := sums_bound (i := i) hn hv
 have hvi := hv i hi
 have hlo := (hok i hi).2.2.1
 have hoA : 0 ≤ ownA l r i ∧ ownA l r i ≤ 200000000000 := by unfold ownA; omega
 have hoB : 0 ≤ ownB l r i ∧ ownB l r i ≤ 1000000000 := by unfold ownB; omega
 induction d with
 | zero =>
  intro x acc hx _
  have h1 : ¬ ((x : Int) < (r.length : Int)) := by omega
  refine Ev.step ?_
  simp only [cohousingref28_equation.l1, h1, if_false, List.range'_zero, List.map_nil, List.append_nil]
  exact Ev.pure _
 | succ d ih =>
  intro x acc hx ha
  have h1 : ((x : Int) < (r.length : Int)) := by omega
  have h2 : (0 : Int) ≤ (x : Int) := by omega
  have h3 : ((x : Int) < (l.length : Int)) := by omega
  have h4 : (0 : Int) ≤ (i : Int) := by omega
  have h5 : ((i : Int) < (l.length : Int)) := by omega
  have h6 : acc.length < 8796093022208 := by omega
  have hw := wrap_nat (show x ≤ 140737488355328 by omega)
  have key : Ev (fun k => cohousingref28_equation.l1 k l r (i : Int) (sL l r i) (sH l r i) (acc ++ [eqAt l r i x]) ((x + 1 : Nat) : Int) (ownA l r i) (ownB l r i)) (acc ++ (List.range' x (d + 1)).map (eqAt l r i)) := by
   have := ih (x + 1) (acc ++ [eqAt l r i x]) (by omega) (by simp; omega)
   rw [List.append_assoc] at this
   rw [List.range'_succ, List.map_cons]
   exact this
  refine Ev.step ?_
  simp only [cohousingref28_equation.l1, h1, h2, h3, h4, h5, h6, if_true, hw]
  by_cases hxi : x = i
  ·have c1 : (x : Int) = (i : Int) := by rw [hxi]
   have c2 : ¬ ((i : Int) > (i : Int)) := Int.lt_irrefl _
   simp only [c1, c2, if_true, if_false]
   have e : eqAt l r i x = ⟨ownA l r i, ownB l r i⟩ := by unfold eqAt; rw [if_pos hxi]
   rw [e] at key
   exact key
  ·have c1 : ¬ (x : Int) = (i : Int) := fun h => hxi (Int.ofNat_inj.1 h)
   simp only [c1, if_false]
   by_cases hlt : i < x
   ·have c2 : ((x : Int) > (i : Int)) := Int.ofNat_lt.2 hlt
    simp only [c2, if_true]
    by_cases hab : (rd_T44 l (x : Int)).f1 = (rd_T44 l (i : Int)).f0
    ·simp only [hab, if_true, cohousingref28_narrow.f, Option.bind_some]
     have hvx := hv x (by omega)
     have e : eqAt l r i x = ⟨mx (rd_T39 r (x : Int)).f0 (wrap64 (wrap64 (ownA l r i - (rd_T44 l (i : Int)).f2) - wrap64 (sH l r i - (rd_T39 r (x : Int)).f1))), mn (rd_T39 r (x : Int)).f1 (wrap64 (ownB l r i - wrap64 (sL l r i - (rd_T39 r (x : Int)).f0)))⟩ := by
      unfold eqAt
      rw [if_neg hxi, if_pos ⟨hlt, hab⟩, mx_max, mn_min]
      have w1 : (rd_T39 r (x : Int)).f0 = lo9 r x := rfl
      have w2 : (rd_T39 r (x : Int)).f1 = hi9 r x := rfl
      have w3 : (rd_T44 l (i : Int)).f2 = loP l i := rfl
      rw [w1, w2, w3, wrap_id (n := ownA l r i - loP l i) (by omega) (by omega), wrap_id (n := sH l r i - hi9 r x) (by omega) (by omega), wrap_id (n := sL l r i - lo9 r x) (by omega) (by omega), wrap_id (by omega) (by omega), wrap_id (by omega) (by omega)]
     rw [e] at key
     exact key
    ·simp only [hab, if_false]
     have e : eqAt l r i x = ⟨(rd_T39 r (x : Int)).f0, (rd_T39 r (x : Int)).f1⟩ := by
      unfold eqAt
      rw [if_neg hxi, if_neg (fun h => hab h.2)]
     rw [e] at key
     exact key
   ·have c2 : ¬ ((x : Int) > (i : Int)) := fun h => hlt (Int.ofNat_lt.1 h)
    simp only [c2, if_false]
    have e : eqAt l r i x = ⟨(rd_T39 r (x : Int)).f0, (rd_T39 r (x : Int)).f1⟩ := by
     unfold eqAt
     rw [if_neg hxi, if_neg (fun h => hlt h.1)]
    rw [e] at key
    exact key
theorem eq_l0 (hok : okL l) (hn : l.length ≤ 200) (hr : r.length = l.length) (hv : Vol l.length (lo9 r) (hi9 r)) (hi : i < l.length) : ∀ (d x : Nat), x + d = (kidsAt l l.length i).length →
  Ev (fun k => cohousingref28_equation.l0 k l r (i : Int) ((kidsAt l l.length i).map Int.ofNat) (sm (lo9 r) ((kidsAt l l.length i).take x)) (sm (hi9 r) ((kidsAt l l.length i).take x)) (x : Int)) ((List.range l.length).map (eqAt l r i)) := by
 intro d
 have hb := sums_bound (i := i) hn hv
 have hvi := hv i hi
 have hlo := (hok i hi).2.2.1
 have hkl := kids_len l i
 have hkm : ∀ k ∈ kidsAt l l.length i, k < l.length := fun k hk => (kidsAt_mem.1 hk).1
 induction d with
 | zero =>
  intro x hx
  have h1 : ¬ ((x : Int) < (((kidsAt l l.length i).map Int.ofNat).length : Int)) := by rw [List.length_map]; omega
  have h2 : (0 : Int) ≤ (i : Int) := by omega
  have h3 : ((i : Int) < (r.length : Int)) := by omega
  have h4 : ((i : Int) < (l.length : Int)) := by omega
  refine Ev.step ?_
  rw [List.take_of_length_le (by omega)]
  simp only [cohousingref28_equation.l0, h1, h2, h3, h4, if_true, if_false, cohousingref28_narrow.f, Option.bind_some]
  have e1 : mx (rd_T39 r (i : Int)).f0 (sm (lo9 r) (kidsAt l l.length i)) = ownA l r i := by rw [mx_max]; rfl
  have e2 : mn (rd_T39 r (i : Int)).f1 (wrap64 (sm (hi9 r) (kidsAt l l.length i) + (rd_T44 l (i : Int)).f2)) = ownB l r i := by
   rw [mn_min]
   have w1 : (rd_T44 l (i : Int)).f2 = loP l i := rfl
   have w2 : sm (hi9 r) (kidsAt l l.length i) = sH l r i := rfl
   rw [w1, w2, wrap_id (by omega) (by omega)]
   rfl
  rw [e1, e2]
  have := eq_l1 hok hn hr hv hi l.length 0 [] (by omega) rfl
  rw [List.nil_append, ← List.range_eq_range'] at this
  exact this
 | succ d ih =>
  intro x hx
  have hxl : x < (kidsAt l l.length i).length := by omega
  have h1 : ((x : Int) < (((kidsAt l l.length i).map Int.ofNat).length : Int)) := by rw [List.length_map]; omega
  have h2 : (0 : Int) ≤ (x : Int) := by omega
  have hk := hkm _ (List.getElem_mem hxl)
  have h3 : (0 : Int) ≤ (((kidsAt l l.length i)[x] : Nat) : Int) := by omega
  have h4 : ((((kidsAt l l.length i)[x] : Nat) : Int) < (r.length : Int)) := by omega
  have hvk := hv _ hk
  have t1 := sm_take_le (f := lo9 r) (ks := kidsAt l l.length i) (B := 1000000000) (fun k hk' => by have := hv k (hkm k hk'); omega) (x + 1)
  have t2 := sm_take_le (f := hi9 r) (ks := kidsAt l l.length i) (B := 1000000000) (fun k hk' => by have := hv k (hkm k hk'); omega) (x + 1)
  have hb1 : sm (lo9 r) (kidsAt l l.length i) ≤ 200000000000 := hb.1.2
  have hb2 : sm (hi9 r) (kidsAt l l.length i) ≤ 200000000000 := hb.2.2
  refine Ev.step ?_
  simp only [cohousingref28_equation.l0, h1, h2, if_true, rd_ofNat _ _ hxl, h3, h4, wrap_nat (show x ≤ 140737488355328 by omega)]
  have e1 : wrap64 (sm (lo9 r) ((kidsAt l l.length i).take x) + (rd_T39 r (((kidsAt l l.length i)[x] : Nat) : Int)).f0) = sm (lo9 r) ((kidsAt l l.length i).take (x + 1)) := by
   have w1 : (rd_T39 r (((kidsAt l l.length i)[x] : Nat) : Int)).f0 = lo9 r (kidsAt l l.length i)[x] := rfl
   rw [w1, ← take_sm _ _ _ hxl, wrap_id (by omega) (by omega)]
  have e2 : wrap64 (sm (hi9 r) ((kidsAt l l.length i).take x) + (rd_T39 r (((kidsAt l l.length i)[x] : Nat) : Int)).f1) = sm (hi9 r) ((kidsAt l l.length i).take (x + 1)) := by
   have w1 : (rd_T39 r (((kidsAt l l.length i)[x] : Nat) : Int)).f1 = hi9 r (kidsAt l l.length i)[x] := rfl
   rw [w1, ← take_sm _ _ _ hxl, wrap_id (by omega) (by omega)]
  rw [e1, e2]
  exact ih (x + 1) (by omega)
theorem eq_f (hok : okL l) (hn : l.length ≤ 200) (hr : r.length = l.length) (hv : Vol l.length (lo9 r) (hi9 r)) (hi : i < l.length) :
  Ev (fun k => cohousingref28_equation.f k l r (i : Int) ((kidsAt l l.length i).map Int.ofNat)) ((List.range l.length).map (eqAt l r i)) :=
 eq_l0 hok hn hr hv hi (kidsAt l l.length i).length 0 (by omega)
theorem rr_map (f : Nat → RG) (n j : Nat) (h : j < n) : rr ((List.range n).map f) j = f j := by
 simp [rr, rd_T39, List.getD_eq_getElem?_getD, h]
end
end Go.Proofs.Ytmojlpafpeeelaa.P
end
section
namespace Go.Proofs.Ytmojlpafpeeelaa.P
open Go.RowKit Go.Proofs.YtmojlpafpeeelaaW.PrintWords Go.Proofs.YtmojlpafpeeelaaW.PrintLast Go.Proofs.YtmojlpafpeeelaaW.PrintMore Go.Proofs.YtmojlpafpeeelaaH Go.Proofs.FlowTree
open Classical
section
variable {l : List PI}
def Done (l : List PI) (r : List RG) (p : Nat) : Prop := kidsAt l l.length p ≠ [] → (sL l r p ≤ lo9 r p ∧ hi9 r p ≤ sH l r p + loP l p) ∧
 ∀ k ∈ kidsAt l l.length p, lo9 r p - loP l p - (sH l r p - hi9 r k) ≤ lo9 r k ∧ hi9 r k ≤ hi9 r p - (sL l r p - lo9 r k)
structure Narrow (l : List PI) (r e : List RG) : Prop where
 len : e.length = l.length
 rng : ∀ j, j < l.length → lo9 r j ≤ lo9 e j ∧ hi9 e j ≤ hi9 r j
 sol : ∀ x, Sol (netT l) (lo9 r) (hi9 r) x → Sol (netT l) (lo9 e) (hi9 e) x
theorem Narrow.refl {r : List RG} (h : r.length = l.length) : Narrow l r r := ⟨h, fun _ _ => ⟨Int.le_refl _, Int.le_refl _⟩, fun _ hx => hx⟩
theorem Narrow.trans {r e f : List RG} (h : Narrow l r e) (h' : Narrow l e f) : Narrow l r f :=
 ⟨h'.len, fun j hj => by have := h.rng j hj; have := h'.rng j hj; omega, fun x hx => h'.sol x (h.sol x hx)⟩
def Dead (l : List PI) (e : List RG) : Prop := ∃ j, j < l.length ∧ hi9 e j < lo9 e j
theorem vol_not_dead {e : List RG} (h : Vol l.length (lo9 e) (hi9 e)) : ¬ Dead l e := fun ⟨j, hj, hd⟩ => by have := h j hj; omega
theorem dead_no_sol {e : List RG} (h : Dead l e) : ¬ ∃ x, Sol (netT l) (lo9 e) (hi9 e) x := fun ⟨x, hx⟩ => by
 obtain ⟨j, hj, hd⟩ := h
 have := hx.1 j hj
 omega
theorem eq_step (hok : okL l) (hn : l.length ≤ 200) {r : List RG} (hr : r.length = l.length) (hv : Vol l.length (lo9 r) (hi9 r)) {i : Nat} (hi : i < l.length) (hne : kidsAt l l.length i ≠ []) :
  Narrow l r ((List.range l.length).map (eqAt l r i)) ∧ (Dead l ((List.range l.length).map (eqAt l r i)) ∨ Vol l.length (lo9 ((List.range l.length).map (eqAt l r i))) (hi9 ((List.range l.length).map (eqAt l r i)))) ∧
   (((List.range l.length).map (eqAt l r i)) = r → Done l r i) := by
 have hT := netT_ok hok
 have hvi := hv i hi
 have hlo := (hok i hi).2.2.1
 have hat : ∀ j, j < l.length → rr ((List.range l.length).map (eqAt l r i)) j = eqAt l r i j := fun j hj => rr_map _ _ j hj
 obtain ⟨e, he⟩ : ∃ e, e = (List.range l.length).map (eqAt l r i) := ⟨_, rfl⟩
 rw [← he] at hat ⊢
 have hlen : e.length = l.length := by rw [he, List.length_map, List.length_range]
 have hkid : ∀ k ∈ kidsAt l l.length i, i < k ∧ k < l.length := fun k hk' => hT.lt i k hk'
 have hkid' : ∀ k, k < l.length → (i < k ∧ abP l k = idP l i) → k ∈ kidsAt l l.length i := fun k hk h => kidsAt_mem.2 ⟨hk, h.1, h.2⟩
 have hown : lo9 e i = ownA l r i ∧ hi9 e i = ownB l r i := by
  have := hat i hi
  unfold eqAt at this
  rw [if_pos rfl] at this
  exact ⟨by unfold lo9; rw [this], by unfold hi9; rw [this]⟩
 have hk : ∀ k ∈ kidsAt l l.length i, lo9 e k = max (lo9 r k) (ownA l r i - loP l i - (sH l r i - hi9 r k)) ∧ hi9 e k = min (hi9 r k) (ownB l r i - (sL l r i - lo9 r k)) := by
  intro k hk'
  have hm := kidsAt_mem.1 hk'
  have := hat k (hkid k hk').2
  unfold eqAt at this
  rw [if_neg (by omega), if_pos ⟨hm.2.1, hm.2.2⟩] at this
  exact ⟨by unfold lo9; rw [this]; rfl, by unfold hi9; rw [this]; rfl⟩
 have hsame : ∀ j, j < l.length → j ≠ i → j ∉ kidsAt l l.length i → lo9 e j = lo9 r j ∧ hi9 e j = hi9 r j := by
  intro j hj h1 h2
  have := hat j hj
  unfold eqAt at this
  rw [if_neg h1, if_neg (fun h => h2 (hkid' j hj h))] at this
  exact ⟨by unfold lo9; rw [this], by unfold hi9; rw [this]⟩
 have hsplit : ∀ k ∈ kidsAt l l.length i, ∃ a b, sL l r i = lo9 r k + sm (lo9 r) (a ++ b) ∧ sH l r i = hi9 r k + sm (hi9 r) (a ++ b) ∧ (∀ x, sm x (kidsAt l l.length i) = x k + sm x (a ++ b)) ∧ (∀ q ∈ a ++ b, q ∈ kidsAt l l.length i) := by
  intro k hk'
  obtain ⟨a, b, hab, _⟩ := sm_split (lo9 r) hk'
  have hx : ∀ x : Nat → Int, sm x (kidsAt l l.length i) = x k + sm x (a ++ b) := fun x => by rw [hab, sm_append, sm_append, sm_cons]; omega
  refine ⟨a, b, hx _, hx _, hx, fun q hq => ?_⟩
  rw [hab]
  rcases List.mem_append.1 hq with h' | h'
  ·exact List.mem_append.2 (.inl h')
  ·exact List.mem_append.2 (.inr (List.mem_cons_of_mem _ h'))
 have hnar : Narrow l r e := by
  refine ⟨hlen, fun j hj => ?_, fun x hx => ⟨fun j hj => ?_, hx.2⟩⟩
  ·by_cases h1 : j = i
   ·subst h1
    rw [hown.1, hown.2]
    unfold ownA ownB
    omega
   ·by_cases h2 : j ∈ kidsAt l l.length i
    ·have := hk j h2; omega
    ·have := hsame j hj h1 h2; omega
  ·have hxj := hx.1 j hj
   have hxi := hx.1 i hi
   have h4 := hx.2 i hi hne
   simp only [netT] at h4
   have l1 : sL l r i ≤ sm x (kidsAt l l.length i) := sm_le (fun q hq => (hx.1 q (hkid q hq).2).1)
   have l2 : sm x (kidsAt l l.length i) ≤ sH l r i := sm_le (fun q hq => (hx.1 q (hkid q hq).2).2)
   have ho : ownA l r i ≤ x i ∧ x i ≤ ownB l r i := by unfold ownA ownB; omega
   by_cases h1 : j = i
   ·subst h1
    rw [hown.1, hown.2]
    exact ho
   ·by_cases h2 : j ∈ kidsAt l l.length i
    ·obtain ⟨a, b, e1, e2, e3, hq⟩ := hsplit j h2
     have e4 := e3 x
     have m1 : sm (lo9 r) (a ++ b) ≤ sm x (a ++ b) := sm_le (fun q h => (hx.1 q (hkid q (hq q h)).2).1)
     have m2 : sm x (a ++ b) ≤ sm (hi9 r) (a ++ b) := sm_le (fun q h => (hx.1 q (hkid q (hq q h)).2).2)
     have := hk j h2
     omega
    ·have := hsame j hj h1 h2; omega
 refine ⟨hnar, ?_, fun hee => ?_⟩
 ·by_cases hd : ownA l r i ≤ ownB l r i
  ·refine .inr (fun j hj => ?_)
   have hvj := hv j hj
   have hoA : lo9 r i ≤ ownA l r i ∧ sL l r i ≤ ownA l r i := by unfold ownA; omega
   have hoB : ownB l r i ≤ hi9 r i ∧ ownB l r i ≤ sH l r i + loP l i := by unfold ownB; omega
   by_cases h1 : j = i
   ·subst h1
    rw [hown.1, hown.2]
    omega
   ·by_cases h2 : j ∈ kidsAt l l.length i
    ·obtain ⟨a, b, e1, e2, e3, hq⟩ := hsplit j h2
     have m1 : sm (lo9 r) (a ++ b) ≤ sm (hi9 r) (a ++ b) := sm_le (fun q h => (hv q (hkid q (hq q h)).2).2.1)
     have := hk j h2
     omega
    ·have := hsame j hj h1 h2; omega
  ·exact .inl ⟨i, hi, by rw [hown.1, hown.2]; omega⟩
 ·intro _
  have h1 : lo9 r i = ownA l r i ∧ hi9 r i = ownB l r i := by rw [← hown.1, ← hown.2, hee]; exact ⟨rfl, rfl⟩
  refine ⟨?_, fun k hk' => ?_⟩
  ·unfold ownA ownB at h1
   omega
  ·have h2 := hk k hk'
   rw [hee] at h2
   omega
structure OnceAt (l : List PI) (r : List RG) (m : Nat) (e : List RG) : Prop where
 nar : Narrow l r e
 now : Dead l e ∨ Vol l.length (lo9 e) (hi9 e)
 fix : Vol l.length (lo9 e) (hi9 e) → e = r → ∀ p, p < m → Done l r p
theorem nil_len (l : List PI) (p : Nat) (h : kidsAt l l.length p = []) : ∀ r, Done l r p := fun _ hc => absurd h hc
theorem once_dead (hn : l.length ≤ 200) {r : List RG} (hr : r.length = l.length) (hd : Dead l r) : ∀ m, m ≤ l.length → Ev (fun k => cohousingref28_once.l0 k l r ((m : Int) - 1)) r := by
 intro m
 induction m with
 | zero =>
  intro _
  have h1 : ¬ (((0 : Nat) : Int) - 1 ≥ 0) := by omega
  refine Ev.step ?_
  simp only [cohousingref28_once.l0, h1, if_false]
  exact Ev.pure _
 | succ m ih =>
  intro hm
  have e : ((m + 1 : Nat) : Int) - 1 = (m : Int) := by omega
  have h1 : ((m : Int) ≥ 0) := by omega
  have e2 : wrap64 ((m : Int) - 1) = (m : Int) - 1 := wrap_id (by omega) (by omega)
  rw [e]
  refine Ev.step ?_
  simp only [cohousingref28_once.l0, h1, if_true, e2]
  refine Ev.bnd (below_f' l hn m (by omega)) ?_
  have hem := empty_f r (by omega)
  rw [decide_eq_true (show ∃ j, j < r.length ∧ (rr r j).f1 < (rr r j).f0 from by
   obtain ⟨j, hj, h⟩ := hd
   exact ⟨j, by omega, h⟩)] at hem
  by_cases hc : (((kidsAt l l.length m).map Int.ofNat).length : Int) > 0
  ·simp only [hc, if_true]
   refine Ev.bnd hem ?_
   simp only [if_true]
   exact ih (by omega)
  ·simp only [hc, if_false]
   exact ih (by omega)
theorem once_l0 (hok : okL l) (hn : l.length ≤ 200) : ∀ m, m ≤ l.length → ∀ r : List RG, r.length = l.length → Vol l.length (lo9 r) (hi9 r) → ∃ e, Ev (fun k => cohousingref28_once.l0 k l r ((m : Int) - 1)) e ∧ OnceAt l r m e := by
 intro m
 induction m with
 | zero =>
  intro _ r hr hv
  refine ⟨r, ?_, ⟨Narrow.refl hr, .inr hv, fun _ _ p hp => absurd hp (Nat.not_lt_zero _)⟩⟩
  have h1 : ¬ (((0 : Nat) : Int) - 1 ≥ 0) := by omega
  refine Ev.step ?_
  simp only [cohousingref28_once.l0, h1, if_false]
  exact Ev.pure _
 | succ m ih =>
  intro hm r hr hv
  have e : ((m + 1 : Nat) : Int) - 1 = (m : Int) := by omega
  have h1 : ((m : Int) ≥ 0) := by omega
  have e2 : wrap64 ((m : Int) - 1) = (m : Int) - 1 := wrap_id (by omega) (by omega)
  have hem := empty_f r (by omega)
  rw [decide_eq_false (show ¬ ∃ j, j < r.length ∧ (rr r j).f1 < (rr r j).f0 from by
   rintro ⟨j, hj, h⟩
   exact vol_not_dead hv ⟨j, by omega, h⟩)] at hem
  rw [e]
  by_cases hne : kidsAt l l.length m = []
  ·obtain ⟨e', he', ho⟩ := ih (by omega) r hr hv
   refine ⟨e', Ev.step ?_, ⟨ho.nar, ho.now, fun hv' hee p hp => ?_⟩⟩
   ·simp only [cohousingref28_once.l0, h1, if_true, e2]
    refine Ev.bnd (below_f' l hn m (by omega)) ?_
    have hc : ¬ (((kidsAt l l.length m).map Int.ofNat).length : Int) > 0 := by rw [hne]; simp
    simp only [hc, if_false]
    exact he'
   ·by_cases h' : p < m
    ·exact ho.fix hv' hee p h'
    ·rw [show p = m by omega]; exact nil_len l m hne r
  ·have hst := eq_step hok hn hr hv (i := m) (by omega) hne
   obtain ⟨q, hq⟩ : ∃ q, q = (List.range l.length).map (eqAt l r m) := ⟨_, rfl⟩
   rw [← hq] at hst
   have hqf := eq_f hok hn hr hv (i := m) (by omega)
   rw [← hq] at hqf
   have hrest : ∃ e', Ev (fun k => cohousingref28_once.l0 k l q ((m : Int) - 1)) e' ∧ OnceAt l q m e' := by
    rcases hst.2.1 with hd | hv'
    ·exact ⟨q, once_dead hn hst.1.len hd m (by omega), Narrow.refl hst.1.len, .inl hd, fun hv2 _ => absurd hd (vol_not_dead hv2)⟩
    ·exact ih (by omega) q hst.1.len hv'
   obtain ⟨e', he', ho⟩ := hrest
   refine ⟨e', Ev.step ?_, ⟨hst.1.trans ho.nar, ho.now, fun hv' hee p hp => ?_⟩⟩
   ·simp only [cohousingref28_once.l0, h1, if_true, e2]
    refine Ev.bnd (below_f' l hn m (by omega)) ?_
    have hc : (((kidsAt l l.length m).map Int.ofNat).length : Int) > 0 := by
     have := List.length_pos_iff.2 hne
     rw [List.length_map]; omega
    simp only [hc, if_true]
    refine Ev.bnd hem ?_
    simp only [Bool.false_eq_true, if_false]
    exact Ev.bnd hqf he'
   ·have hqr : q = r := by
     apply rr_ext (by rw [hst.1.len, hr])
     intro j hj
     rw [hst.1.len] at hj
     have a1 := hst.1.rng j hj
     have a2 := ho.nar.rng j hj
     rw [hee] at a2
     have b1 : lo9 q j = lo9 r j := by omega
     have b2 : hi9 q j = hi9 r j := by omega
     unfold lo9 at b1
     unfold hi9 at b2
     cases h1 : rr q j
     cases h2 : rr r j
     rw [h1, h2] at b1 b2
     simp only at b1 b2
     rw [b1, b2]
    by_cases h' : p < m
    ·have := ho.fix hv' (hee.trans hqr.symm) p h'
     rw [hqr] at this
     exact this
    ·rw [show p = m by omega]
     exact hst.2.2 hqr
theorem once_f (hok : okL l) (hn : l.length ≤ 200) (r : List RG) (hr : r.length = l.length) (hv : Vol l.length (lo9 r) (hi9 r)) : ∃ e, Ev (fun k => cohousingref28_once.f k l r) e ∧ OnceAt l r l.length e := by
 obtain ⟨e, he, ho⟩ := once_l0 hok hn l.length (Nat.le_refl _) r hr hv
 refine ⟨e, ?_, ho⟩
 unfold cohousingref28_once.f
 rw [wrap_id (by omega) (by omega)]
 exact he
def wide (n : Nat) (e : List RG) : Nat := (List.range n).foldl (fun s j => s + (hi9 e j - lo9 e j).toNat) 0
theorem wide_succ (n : Nat) (e : List RG) : wide (n + 1) e = wide n e + (hi9 e n - lo9 e n).toNat := by
 unfold wide
 rw [List.range_succ, List.foldl_append]
 rfl
theorem wide_le (r e : List RG) : ∀ n, (∀ j, j < n → lo9 r j ≤ lo9 e j ∧ hi9 e j ≤ hi9 r j) → wide n e ≤ wide n r := by
 intro n
 induction n with
 | zero => intro _; exact Nat.le_refl _
 | succ n ih =>
  intro h
  rw [wide_succ, wide_succ]
  have h1 := ih (fun j hj => h j (by omega))
  have h2 := h n (by omega)
  omega
theorem wide_lt (r e : List RG) : ∀ n, (∀ j, j < n → lo9 r j ≤ lo9 e j ∧ hi9 e j ≤ hi9 r j ∧ lo9 e j ≤ hi9 e j) → (∃ j, j < n ∧ (lo9 r j ≠ lo9 e j ∨ hi9 r j ≠ hi9 e j)) → wide n e < wide n r := by
 intro n
 induction n with
 | zero => rintro _ ⟨j, hj, _⟩; omega
 | succ n ih =>
  rintro h ⟨j, hj, hd⟩
  rw [wide_succ, wide_succ]
  have h2 := h n (by omega)
  by_cases hjn : j < n
  ·have h1 := ih (fun j hj => h j (by omega)) ⟨j, hjn, hd⟩
   omega
  ·have e1 : j = n := by omega
   subst e1
   have h1 := wide_le r e j (fun j hj => by have := h j (by omega); omega)
   omega
theorem bounds_l0 (hok : okL l) (hn : l.length ≤ 200) : ∀ (μ : Nat) (r : List RG), wide l.length r = μ → r.length = l.length → Vol l.length (lo9 r) (hi9 r) →
  (Ev (fun k => cohousingref28_bounds.l0 k l r) ([], false) ∧ ¬ ∃ x, Sol (netT l) (lo9 r) (hi9 r) x) ∨
  (∃ d, Ev (fun k => cohousingref28_bounds.l0 k l r) (d, true) ∧ Narrow l r d ∧ Vol l.length (lo9 d) (hi9 d) ∧ ∀ p, p < l.length → Done l d p) := by
 intro μ
 induction μ using Nat.strongRecOn with
 | ind μ ih =>
  intro r hμ hr hv
  obtain ⟨e, he, ho⟩ := once_f hok hn r hr hv
  have hem := empty_f e (by have := ho.nar.len; omega)
  have hsf := same_f e r (by have := ho.nar.len; omega)
  rcases ho.now with hd | hv'
  ·refine .inl ⟨Ev.step ?_, fun ⟨x, hx⟩ => dead_no_sol hd ⟨x, ho.nar.sol x hx⟩⟩
   rw [decide_eq_true (show ∃ j, j < e.length ∧ (rr e j).f1 < (rr e j).f0 from by
    obtain ⟨j, hj, h⟩ := hd
    exact ⟨j, by rw [ho.nar.len]; exact hj, h⟩)] at hem
   simp only [cohousingref28_bounds.l0]
   refine Ev.bnd he (Ev.bnd hem ?_)
   simp only [if_true]
   exact Ev.pure _
  ·rw [decide_eq_false (show ¬ ∃ j, j < e.length ∧ (rr e j).f1 < (rr e j).f0 from by
    rintro ⟨j, hj, h⟩
    exact vol_not_dead hv' ⟨j, by rw [← ho.nar.len]; exact hj, h⟩)] at hem
   by_cases hee : e = r
   ·rw [decide_eq_true hee] at hsf
    refine .inr ⟨e, Ev.step ?_, ho.nar, hv', fun p hp => by rw [hee]; exact ho.fix hv' hee p hp⟩
    simp only [cohousingref28_bounds.l0]
    refine Ev.bnd he (Ev.bnd hem ?_)
    simp only [Bool.false_eq_true, if_false]
    refine Ev.bnd hsf ?_
    simp only [if_true]
    exact Ev.pure _
   ·rw [decide_eq_false hee] at hsf
    have hlt : wide l.length e < μ := by
     rw [← hμ]
     refine wide_lt r e l.length (fun j hj => by have := ho.nar.rng j hj; have := hv' j hj; omega) ?_
     by_cases hex : ∃ j, j < l.length ∧ (lo9 r j ≠ lo9 e j ∨ hi9 r j ≠ hi9 e j)
     ·exact hex
     ·refine absurd (rr_ext (by rw [ho.nar.len, hr]) (fun j hj => ?_)) hee
      rw [ho.nar.len] at hj
      have b1 : lo9 e j = lo9 r j := by
       by_cases h : lo9 r j = lo9 e j
       ·exact h.symm
       ·exact absurd ⟨j, hj, .inl h⟩ hex
      have b2 : hi9 e j = hi9 r j := by
       by_cases h : hi9 r j = hi9 e j
       ·exact h.symm
       ·exact absurd ⟨j, hj, .inr h⟩ hex
      unfold lo9 at b1
      unfold hi9 at b2
      cases h1 : rr e j
      cases h2 : rr r j
      rw [h1, h2] at b1 b2
      simp only at b1 b2
      rw [b1, b2]
    have hrest : ∀ R, Ev (fun k => cohousingref28_bounds.l0 k l e) R → Ev (fun k => cohousingref28_bounds.l0 k l r) R := fun R hR => by
     refine Ev.step ?_
     simp only [cohousingref28_bounds.l0]
     refine Ev.bnd he (Ev.bnd hem ?_)
     simp only [Bool.false_eq_true, if_false]
     refine Ev.bnd hsf ?_
     simp only [Bool.false_eq_true, if_false]
     exact hR
    rcases ih (wide l.length e) hlt e rfl ho.nar.len hv' with ⟨h1, h2⟩ | ⟨d, h1, h2, h3, h4⟩
    ·exact .inl ⟨hrest _ h1, fun ⟨x, hx⟩ => h2 ⟨x, ho.nar.sol x hx⟩⟩
    ·exact .inr ⟨d, hrest _ h1, ho.nar.trans h2, h3, h4⟩
end
end Go.Proofs.Ytmojlpafpeeelaa.P
end
section
namespace Go.Proofs.Ytmojlpafpeeelaa.P
open Go.RowKit Go.Proofs.YtmojlpafpeeelaaW.PrintWords Go.Proofs.YtmojlpafpeeelaaW.PrintLast Go.Proofs.YtmojlpafpeeelaaW.PrintMore Go.Proofs.YtmojlpafpeeelaaH Go.Proofs.FlowTree
open Classical
theorem Lo_map (r : List RG) : Lo (r.map toI) = lo9 r := funext (fun i => Lo_toI r i)
theorem Hi_map (r : List RG) : Hi (r.map toI) = hi9 r := funext (fun i => Hi_toI r i)
theorem rr_toR (d : List IV) (i : Nat) : rr (d.map toR) i = toR (rv d i) := by
 simp only [rv, rr, rd_T59, rd_T39, Int.toNat_natCast, List.getD_eq_getElem?_getD, List.getElem?_map]
 cases d[i]? <;> rfl
theorem lo_map (d : List IV) : lo9 (d.map toR) = Lo d := funext (fun i => by unfold lo9; rw [rr_toR]; rfl)
theorem toI_toR (d : List IV) : (d.map toR).map toI = d := by
 rw [List.map_map]
 exact List.map_id d
theorem belongs_iff (n : Nat) (r : List RG) : belongsB n r = true ↔ r.length = n ∧ Vol n (lo9 r) (hi9 r) := by
 unfold belongsB
 rw [Bool.and_eq_true, decide_eq_true_eq, Bool.not_eq_true', List.any_eq_false]
 constructor
 ·rintro ⟨h1, h2⟩
  refine ⟨h1, fun j hj => ?_⟩
  have hj' : j < r.length := by omega
  have := h2 r[j] (List.getElem_mem hj')
  simp only [oddR, Bool.not_eq_true, decide_eq_false_iff_not, Decidable.not_not] at this
  have e : rr r j = r[j] := by simp [rr, rd_T39, List.getD_eq_getElem?_getD, hj']
  unfold lo9 hi9
  rw [e]
  omega
 ·rintro ⟨h1, h2⟩
  refine ⟨h1, fun x hx => ?_⟩
  obtain ⟨j, hj, rfl⟩ := List.mem_iff_getElem.1 hx
  have := h2 j (by omega)
  have e : rr r j = r[j] := by simp [rr, rd_T39, List.getD_eq_getElem?_getD, hj]
  unfold lo9 hi9 at this
  rw [e] at this
  simp only [oddR, Bool.not_eq_true, decide_eq_false_iff_not, Decidable.not_not]
  omega
structure Good (l : List PI) (r : List RG) : Prop where
 ok : okL l
 n : l.length ≤ 200
 len : r.length = l.length
 vol : Vol l.length (lo9 r) (hi9 r)
theorem good_iff (l : List PI) (r : List RG) : Good l r ↔ (okL l ∧ l.length ≤ 200) ∧ belongsB l.length r = true := by
 rw [belongs_iff]
 exact ⟨fun h => ⟨⟨h.ok, h.n⟩, h.len, h.vol⟩, fun h => ⟨h.1.1, h.1.2, h.2.1, h.2.2⟩⟩
theorem netOk_some {l : List PI} (h : okL l) (hn : l.length ≤ 200) : ∃ kids, netOk l = some kids ∧ ∀ j, j < l.length → rdK kids j = (kidsAt l l.length j).map Int.ofNat := by
 obtain ⟨kids, hk⟩ := openK_of h
 exact ⟨kids, by unfold netOk; rw [if_pos hn, hk], (openK_some hk).2⟩
theorem netOk_none {l : List PI} (h : ¬ (okL l ∧ l.length ≤ 200)) : netOk l = none := by
 unfold netOk
 by_cases hn : l.length ≤ 200
 ·rw [if_pos hn]
  cases ho : openK l with
  | none => rfl
  | some kids => exact absurd ⟨(openK_some ho).1, hn⟩ h
 ·rw [if_neg hn]
theorem valid_iff (l : List PI) : ((openK l).isSome && decide (l.length ≤ 200)) = decide (okL l ∧ l.length ≤ 200) := by
 by_cases h : okL l
 ·obtain ⟨kids, hk⟩ := openK_of h
  rw [hk]
  simp [h]
 ·cases ho : openK l with
  | none => simp [h]
  | some kids => exact absurd (openK_some ho).1 h
theorem exact_uniq {l : List PI} {lo hi : Nat → Int} {d : List IV} (h : Exact l lo hi d) {e : List RG} (he : e.length = l.length) (hs : ∀ x, Sol (netT l) lo hi x → ∀ j, j < l.length → lo9 e j ≤ x j ∧ x j ≤ hi9 e j)
  (hv : Vol l.length (lo9 e) (hi9 e)) (hh : ∀ j, j < l.length → ∀ v, lo9 e j ≤ v → v ≤ hi9 e j → ∃ x, Sol (netT l) lo hi x ∧ x j = v) : e = d.map toR := by
 apply rr_ext (by rw [he, List.length_map, h.len])
 intro j hj
 rw [he] at hj
 have hd := h.rng j hj
 have hvj := hv j hj
 obtain ⟨x1, s1, e1⟩ := h.had j hj (Lo d j) (by omega) (by omega)
 obtain ⟨x2, s2, e2⟩ := h.had j hj (Hi d j) (by omega) (by omega)
 obtain ⟨x3, s3, e3⟩ := hh j hj (lo9 e j) (by omega) (by omega)
 obtain ⟨x4, s4, e4⟩ := hh j hj (hi9 e j) (by omega) (by omega)
 have a1 := hs x1 s1 j hj
 have a2 := hs x2 s2 j hj
 have a3 := h.sol x3 s3 j hj
 have a4 := h.sol x4 s4 j hj
 rw [rr_toR]
 have b1 : (rr e j).f0 = (rv d j).f0 := by unfold lo9 at *; unfold Lo at *; unfold hi9 at *; unfold Hi at *; omega
 have b2 : (rr e j).f1 = (rv d j).f1 := by unfold lo9 at *; unfold Lo at *; unfold hi9 at *; unfold Hi at *; omega
 unfold toR
 rw [← b1, ← b2]
section
variable {l : List PI} {kids : List (List Int)}
theorem ref_bounds (hok : okL l) (hn : l.length ≤ 200) (hk : ∀ j, j < l.length → rdK kids j = (kidsAt l l.length j).map Int.ofNat) {r : List RG} (hr : r.length = l.length) (hv : Vol l.length (lo9 r) (hi9 r)) :
  ((boundsF l kids (r.map toI)).1 = false ∧ (¬ ∃ x, Sol (netT l) (lo9 r) (hi9 r) x) ∧ Ev (fun k => cohousingref28_bounds.f k l r) ([], false)) ∨
  ((boundsF l kids (r.map toI)).1 = true ∧ Exact l (lo9 r) (hi9 r) (boundsF l kids (r.map toI)).2 ∧ Ev (fun k => cohousingref28_bounds.f k l r) ((boundsF l kids (r.map toI)).2.map toR, true)) := by
 have hb := boundsF_spec hok hn hk (r := r.map toI) (by rw [List.length_map, hr]) (by rw [Lo_map, Hi_map]; exact hv)
 rw [Lo_map, Hi_map] at hb
 have href := bounds_l0 hok hn (wide l.length r) r rfl hr hv
 rcases hb with ⟨b1, b2⟩ | ⟨b1, b2⟩
 ·refine .inl ⟨b1, b2, ?_⟩
  rcases href with ⟨h1, _⟩ | ⟨d, h1, h2, h3, h4⟩
  ·exact h1
  ·exfalso
   by_cases hz : 0 < l.length
   ·obtain ⟨x, hx, _⟩ := exact (netT l) (netT_ok hok) (lo9 d) (hi9 d) (lo9 d) (hi9 d) (fun i hi => (h3 i hi).2.1) (fun i hi hne => (h4 i hi hne).1) (fun i hi => ⟨Int.le_refl _, (h3 i hi).2.1, Int.le_refl _⟩)
     (fun i hi k hk' => (h4 i hi (fun hh => by simp only [netT] at hk'; rw [hh] at hk'; cases hk')).2 k hk') 0 hz (lo9 d 0) (Int.le_refl _) (h3 0 hz).2.1
    exact b2 ⟨x, fun i hi => by have := hx.1 i hi; have := h2.rng i hi; omega, hx.2⟩
   ·exact b2 ⟨fun _ => 0, fun i hi => absurd hi (by simp only [netT]; omega), fun i hi => absurd hi (by simp only [netT]; omega)⟩
 ·refine .inr ⟨b1, b2, ?_⟩
  rcases href with ⟨_, h2⟩ | ⟨d, h1, h2, h3, h4⟩
  ·exfalso
   by_cases hz : 0 < l.length
   ·obtain ⟨x, hx, _⟩ := b2.had 0 hz (Lo _ 0) (Int.le_refl _) (b2.rng 0 hz).2.1
    exact h2 ⟨x, hx⟩
   ·exact h2 ⟨fun _ => 0, fun i hi => absurd hi (by simp only [netT]; omega), fun i hi => absurd hi (by simp only [netT]; omega)⟩
  ·have e := exact_uniq b2 (e := d) h2.len (fun x hx => (h2.sol x hx).1) h3 (fun j hj v hv1 hv2 => by
    obtain ⟨x, hx, hxv⟩ := exact (netT l) (netT_ok hok) (lo9 d) (hi9 d) (lo9 d) (hi9 d) (fun i hi => (h3 i hi).2.1) (fun i hi hne => (h4 i hi hne).1) (fun i hi => ⟨Int.le_refl _, (h3 i hi).2.1, Int.le_refl _⟩)
     (fun i hi k hk' => (h4 i hi (fun hh => by simp only [netT] at hk'; rw [hh] at hk'; cases hk')).2 k hk') j hj v hv1 hv2
    exact ⟨x, ⟨fun i hi => by have := hx.1 i hi; have := h2.rng i hi; omega, hx.2⟩, hxv⟩)
   rw [← e]
   exact h1
end
inductive BoundsIs (l : List PI) (r : List RG) : List RG × Int → Prop
 | arg : ¬ Good l r → BoundsIs l r ([], 1)
 | flow : Good l r → (¬ ∃ x, Sol (netT l) (lo9 r) (hi9 r) x) → BoundsIs l r ([], 30)
 | ok (d : List IV) : Good l r → Exact l (lo9 r) (hi9 r) d → BoundsIs l r (d.map toR, 0)
theorem boundsR_is (l : List PI) (r : List RG) : BoundsIs l r (boundsR l r) := by
 unfold boundsR
 by_cases hg : Good l r
 ·obtain ⟨kids, h1, h2⟩ := netOk_some hg.ok hg.n
  rw [h1]
  simp only []
  rw [if_pos ((good_iff l r).1 hg).2]
  rcases ref_bounds hg.ok hg.n h2 hg.len hg.vol with ⟨b1, b2, _⟩ | ⟨b1, b2, _⟩
  ·rw [if_neg (by rw [b1]; decide)]
   exact .flow hg b2
  ·rw [if_pos b1]
   exact .ok _ hg b2
 ·have hno := fun h => hg ((good_iff l r).2 h)
  by_cases hv : okL l ∧ l.length ≤ 200
  ·obtain ⟨kids, h1, h2⟩ := netOk_some hv.1 hv.2
   rw [h1]
   simp only []
   rw [if_neg (fun h => hno ⟨hv, h⟩)]
   exact .arg hg
  ·rw [netOk_none hv]
   exact .arg hg
theorem ref_Bounds (l : List PI) (r : List RG) (hl : l.length ≤ 5864062014805) (hr : r.length ≤ 140737488355328) : Ev (fun k => cohousingref28_Bounds.f k l r) (boundsR l r) := by
 have hbel : cohousingref28_Belongs.f l r = some (belongsB l.length r) := by unfold cohousingref28_Belongs.f; rw [if_pos ⟨by omega, hr⟩]
 unfold cohousingref28_Bounds.f
 refine Ev.bnd (valid_f l (by omega)) ?_
 simp only [hbel, Option.bind_some]
 unfold boundsR
 by_cases hv : okL l ∧ l.length ≤ 200
 ·obtain ⟨kids, h1, h2⟩ := netOk_some hv.1 hv.2
  rw [decide_eq_true hv, h1]
  simp only [if_true]
  by_cases hb : belongsB l.length r = true
  ·have hg := (good_iff l r).2 ⟨hv, hb⟩
   rw [hb]
   simp only [if_true]
   refine Ev.step ?_
   simp only [cohousingref28_Bounds.j0, Bool.not_true, Bool.false_eq_true, if_false]
   rcases ref_bounds hg.ok hg.n h2 hg.len hg.vol with ⟨b1, b2, b3⟩ | ⟨b1, b2, b3⟩
   ·refine Ev.bnd b3 ?_
    simp only [b1, Bool.false_eq_true, if_false]
    exact Ev.pure _
   ·refine Ev.bnd b3 ?_
    have hlen : ([] : List RG).length + ((boundsF l kids (r.map toI)).2.map toR).length < 8796093022208 := by
     rw [List.length_map, b2.len]; simp; omega
    simp only [b1, if_true, Option.bind_some, hlen, List.nil_append]
    exact Ev.pure _
  ·rw [if_neg hb]
   rw [Bool.not_eq_true] at hb
   rw [hb]
   refine Ev.step ?_
   simp only [cohousingref28_Bounds.j0, Bool.not_false, if_true]
   exact Ev.pure _
 ·rw [decide_eq_false hv, netOk_none hv]
  simp only [Bool.false_eq_true, if_false]
  refine Ev.step ?_
  simp only [cohousingref28_Bounds.j0, if_true]
  exact Ev.pure _
end Go.Proofs.Ytmojlpafpeeelaa.P
end
section
namespace Go.Proofs.Ytmojlpafpeeelaa.P
open Go.RowKit Go.Proofs.YtmojlpafpeeelaaW.PrintWords Go.Proofs.YtmojlpafpeeelaaW.PrintLast Go.Proofs.YtmojlpafpeeelaaW.PrintMore Go.Proofs.YtmojlpafpeeelaaH Go.Proofs.FlowTree
open Classical
abbrev fx (x : List Int) (j : Nat) : Int := rd x (j : Int)
theorem okIn_iff (r : List RG) (x : List Int) (i : Nat) : okIn r x i = true ↔ lo9 r i ≤ fx x i ∧ fx x i ≤ hi9 r i := by
 unfold okIn lo9 hi9 fx rr
 simp only [Bool.and_eq_true, Bool.not_eq_true', decide_eq_false_iff_not]
 omega
theorem mk_map (x : List Int) (j : Nat) : (rv (x.map mkI) j).f0 = fx x j := by
 simp only [rv, rd_T59, fx, rd, Int.toNat_natCast, List.getD_eq_getElem?_getD, List.getElem?_map]
 cases x[j]? <;> rfl
section
variable {l : List PI} {kids : List (List Int)}
theorem lost_eq (hn : l.length ≤ 200) (hk : ∀ j, j < l.length → rdK kids j = (kidsAt l l.length j).map Int.ofNat) {x : List Int} (hx : ∀ j, j < l.length → 0 ≤ fx x j ∧ fx x j ≤ 1000000000) {i : Nat} (hi : i < l.length) :
  (belowI kids (x.map mkI) i).length = (kidsAt l l.length i).length ∧ lostI kids x i = fx x i - sm (fx x) (kidsAt l l.length i) := by
 have hkm : ∀ k ∈ kidsAt l l.length i, k < l.length := fun k hk' => (kidsAt_mem.1 hk').1
 have hbl := kids_len l i
 have hb := sm_bound (f := fx x) (ks := kidsAt l l.length i) (a := 0) (b := 1000000000) (fun k hk' => hx k (hkm k hk'))
 have hxi := hx i hi
 unfold lostI
 rw [below_eq hk _ i hi, List.length_map]
 refine ⟨rfl, ?_⟩
 rw [total_eq _ _ _ (by omega) (fun k hk' => by rw [mk_map]; exact hx k (hkm k hk'))]
 rw [sm_congr (f := fun k => (rv (x.map mkI) k).f0) (g := fx x) (fun k _ => mk_map x k)]
 show wrap64 (fx x i - sm (fx x) (kidsAt l l.length i)) = _
 exact wrap_id (by omega) (by omega)
theorem okEq_iff (hn : l.length ≤ 200) (hk : ∀ j, j < l.length → rdK kids j = (kidsAt l l.length j).map Int.ofNat) {x : List Int} (hx : ∀ j, j < l.length → 0 ≤ fx x j ∧ fx x j ≤ 1000000000) {i : Nat} (hi : i < l.length) :
  okEq l kids x i = true ↔ (netT l).eq (fx x) i := by
 have h := lost_eq hn hk hx hi
 unfold okEq Net.eq
 rw [h.1, h.2]
 simp only [netT, Bool.or_eq_true, Bool.and_eq_true, Bool.not_eq_true', decide_eq_true_eq, decide_eq_false_iff_not]
 constructor
 ·rintro (h1 | h1) hne
  ·exact absurd (List.length_eq_zero_iff.1 h1) hne
  ·unfold loP; omega
 ·intro h1
  by_cases hne : kidsAt l l.length i = []
  ·exact .inl (by rw [hne]; rfl)
  ·have := h1 hne
   unfold loP at this
   exact .inr (by omega)
theorem cons_sol {r : List RG} (hg : Good l r) (hk : ∀ j, j < l.length → rdK kids j = (kidsAt l l.length j).map Int.ofNat) (x : List Int) :
  ((List.range l.length).all (okIn r x) && (List.range l.length).all (okEq l kids x)) = decide (Sol (netT l) (lo9 r) (hi9 r) (fx x)) := by
 by_cases hin : ∀ i, i < l.length → lo9 r i ≤ fx x i ∧ fx x i ≤ hi9 r i
 ·have hx : ∀ j, j < l.length → 0 ≤ fx x j ∧ fx x j ≤ 1000000000 := fun j hj => by have := hin j hj; have := hg.vol j hj; omega
  rw [all_true (fun i hi => (okIn_iff r x i).2 (hin i hi)), Bool.true_and]
  by_cases heq : ∀ i, i < l.length → (netT l).eq (fx x) i
  ·rw [all_true (fun i hi => (okEq_iff hg.n hk hx hi).2 (heq i hi)), decide_eq_true ⟨hin, heq⟩]
  ·rw [decide_eq_false (fun h => heq h.2)]
   have hex : ∃ i, i < l.length ∧ ¬ (netT l).eq (fx x) i := by
    apply Classical.byContradiction
    intro hc
    exact heq (fun i hi => Classical.byContradiction (fun h => hc ⟨i, hi, h⟩))
   obtain ⟨i, hi, hne⟩ := hex
   exact all_false hi (by rw [Bool.eq_false_iff]; exact fun h => hne ((okEq_iff hg.n hk hx hi).1 h))
 ·rw [decide_eq_false (fun h => hin h.1)]
  have hex : ∃ i, i < l.length ∧ ¬ (lo9 r i ≤ fx x i ∧ fx x i ≤ hi9 r i) := by
   apply Classical.byContradiction
   intro hc
   exact hin (fun i hi => Classical.byContradiction (fun h => hc ⟨i, hi, h⟩))
  obtain ⟨i, hi, hne⟩ := hex
  rw [all_false hi (by rw [Bool.eq_false_iff]; exact fun h => hne ((okIn_iff r x i).1 h)), Bool.false_and]
end
theorem consR_is (l : List PI) (r : List RG) (x : List Int) : consR l r x = if Good l r ∧ x.length = l.length then (decide (Sol (netT l) (lo9 r) (hi9 r) (fx x)), 0) else (false, 1) := by
 unfold consR
 by_cases hg : Good l r
 ·obtain ⟨kids, h1, h2⟩ := netOk_some hg.ok hg.n
  rw [h1]
  simp only []
  rw [if_pos ((good_iff l r).1 hg).2]
  by_cases hx : x.length = l.length
  ·rw [if_pos hx, if_pos ⟨hg, hx⟩, cons_sol hg h2]
  ·rw [if_neg hx, if_neg (fun h => hx h.2)]
 ·rw [if_neg (fun h => hg h.1)]
  have hno := fun h => hg ((good_iff l r).2 h)
  by_cases hv : okL l ∧ l.length ≤ 200
  ·obtain ⟨kids, h1, h2⟩ := netOk_some hv.1 hv.2
   rw [h1]
   simp only []
   rw [if_neg (fun h => hno ⟨hv, h⟩)]
  ·rw [netOk_none hv]
section
variable {l : List PI} {r : List RG} {x : List Int}
theorem cons_l2 (hg : Good l r) (hxl : x.length = l.length) (hx : ∀ j, j < l.length → 0 ≤ fx x j ∧ fx x j ≤ 1000000000) {i : Nat} (hi : i < l.length) {R : Bool × Int}
  (hyes : (netT l).eq (fx x) i → Ev (fun k => cohousingref28_Consistent.l1 k l x ((i + 1 : Nat) : Int)) R) (hno : ¬ (netT l).eq (fx x) i → R = (false, 0)) : ∀ (d y : Nat), y + d = (kidsAt l l.length i).length →
  Ev (fun k => cohousingref28_Consistent.l2 k l x (i : Int) ((kidsAt l l.length i).map Int.ofNat) (fx x i - sm (fx x) ((kidsAt l l.length i).take y)) (y : Int)) R := by
 have hn := hg.n
 have hkm : ∀ k ∈ kidsAt l l.length i, k < l.length := fun k hk' => (kidsAt_mem.1 hk').1
 have hbl := kids_len l i
 have hb := sm_bound (f := fx x) (ks := kidsAt l l.length i) (a := 0) (b := 1000000000) (fun k hk' => hx k (hkm k hk'))
 have hxi := hx i hi
 intro d
 induction d with
 | zero =>
  intro y hy
  have h1 : ¬ ((y : Int) < (((kidsAt l l.length i).map Int.ofNat).length : Int)) := by rw [List.length_map]; omega
  have h2 : (0 : Int) ≤ (i : Int) := by omega
  have h3 : ((i : Int) < (l.length : Int)) := by omega
  refine Ev.step ?_
  rw [List.take_of_length_le (by omega)]
  by_cases hne : kidsAt l l.length i = []
  ·have h4 : ¬ ((((kidsAt l l.length i).map Int.ofNat).length : Int) > 0) := by rw [hne]; simp
   simp only [cohousingref28_Consistent.l2, h1, h4, if_false, wrap_nat (show i ≤ 140737488355328 by omega)]
   exact hyes (fun hc => absurd hne hc)
  ·have h4 : ((((kidsAt l l.length i).map Int.ofNat).length : Int) > 0) := by
    have := List.length_pos_iff.2 hne
    rw [List.length_map]; omega
   have hlo : (rd_T44 l (i : Int)).f2 = loP l i := rfl
   by_cases c1 : fx x i - sm (fx x) (kidsAt l l.length i) < 0
   ·simp only [cohousingref28_Consistent.l2, h1, h4, c1, if_true, if_false]
    rw [hno (fun h => by have := (h hne).1; simp only [netT] at this; omega)]
    exact Ev.pure _
   ·by_cases c2 : fx x i - sm (fx x) (kidsAt l l.length i) > loP l i
    ·simp only [cohousingref28_Consistent.l2, h1, h2, h3, h4, c1, hlo, c2, if_true, if_false]
     rw [hno (fun h => by have := (h hne).2; simp only [netT] at this; omega)]
     exact Ev.pure _
    ·simp only [cohousingref28_Consistent.l2, h1, h2, h3, h4, c1, hlo, c2, if_true, if_false, wrap_nat (show i ≤ 140737488355328 by omega)]
     exact hyes (fun _ => by simp only [netT]; omega)
 | succ d ih =>
  intro y hy
  have hyl : y < (kidsAt l l.length i).length := by omega
  have h1 : ((y : Int) < (((kidsAt l l.length i).map Int.ofNat).length : Int)) := by rw [List.length_map]; omega
  have h2 : (0 : Int) ≤ (y : Int) := by omega
  have hk := hkm _ (List.getElem_mem hyl)
  have h3 : (0 : Int) ≤ (((kidsAt l l.length i)[y] : Nat) : Int) := by omega
  have h4 : ((((kidsAt l l.length i)[y] : Nat) : Int) < (x.length : Int)) := by omega
  have t1 := sm_take_le (f := fx x) (ks := kidsAt l l.length i) (B := 1000000000) (fun k hk' => hx k (hkm k hk')) (y + 1)
  refine Ev.step ?_
  simp only [cohousingref28_Consistent.l2, h1, h2, if_true, rd_ofNat _ _ hyl, h3, h4, wrap_nat (show y ≤ 140737488355328 by omega)]
  have e1 : wrap64 (fx x i - sm (fx x) ((kidsAt l l.length i).take y) - rd x (((kidsAt l l.length i)[y] : Nat) : Int)) = fx x i - sm (fx x) ((kidsAt l l.length i).take (y + 1)) := by
   have w1 : rd x (((kidsAt l l.length i)[y] : Nat) : Int) = fx x (kidsAt l l.length i)[y] := rfl
   have w2 := take_sm (fx x) (kidsAt l l.length i) y hyl
   rw [w1, wrap_id (by omega) (by omega)]
   omega
  rw [e1]
  exact ih (y + 1) (by omega)
theorem cons_l1 (hg : Good l r) (hxl : x.length = l.length) (hx : ∀ j, j < l.length → 0 ≤ fx x j ∧ fx x j ≤ 1000000000) : ∀ (d i : Nat), i + d = l.length →
  Ev (fun k => cohousingref28_Consistent.l1 k l x (i : Int)) (decide (∀ j, i ≤ j → j < l.length → (netT l).eq (fx x) j), 0) := by
 have hn := hg.n
 intro d
 induction d with
 | zero =>
  intro i hi
  have h1 : ¬ ((i : Int) < (l.length : Int)) := by omega
  refine Ev.step ?_
  simp only [cohousingref28_Consistent.l1, h1, if_false]
  rw [decide_eq_true (fun j h2 h3 => by omega)]
  exact Ev.pure _
 | succ d ih =>
  intro i hi
  have h1 : ((i : Int) < (l.length : Int)) := by omega
  have h2 : (0 : Int) ≤ (i : Int) := by omega
  have h3 : ((i : Int) < (x.length : Int)) := by omega
  refine Ev.step ?_
  simp only [cohousingref28_Consistent.l1, h1, if_true]
  refine Ev.bnd (below_f' l hn i (by omega)) ?_
  simp only [h2, h3, if_true]
  have := cons_l2 hg hxl hx (i := i) (by omega) (R := (decide (∀ j, i ≤ j → j < l.length → (netT l).eq (fx x) j), 0)) (fun he => by
   rw [show decide (∀ j, i ≤ j → j < l.length → (netT l).eq (fx x) j) = decide (∀ j, i + 1 ≤ j → j < l.length → (netT l).eq (fx x) j) from decide_eq_decide.2 ⟨fun h j h4 h5 => h j (by omega) h5, fun h j h4 h5 => by
    by_cases e : j = i
    ·subst e; exact he
    ·exact h j (by omega) h5⟩]
   exact ih (i + 1) (by omega)) (fun he => by rw [decide_eq_false (fun h => he (h i (Nat.le_refl _) (by omega)))]) (kidsAt l l.length i).length 0 (by omega)
  rw [List.take_zero, sm_nil, Int.sub_zero] at this
  exact this
theorem cons_l0 (hg : Good l r) (hxl : x.length = l.length) : ∀ (d i : Nat), i + d = l.length → (∀ j, j < i → lo9 r j ≤ fx x j ∧ fx x j ≤ hi9 r j) →
  Ev (fun k => cohousingref28_Consistent.l0 k l r x (i : Int)) (decide (Sol (netT l) (lo9 r) (hi9 r) (fx x)), 0) := by
 have hn := hg.n
 have hrl := hg.len
 intro d
 induction d with
 | zero =>
  intro i hi hin
  have h1 : ¬ ((i : Int) < (l.length : Int)) := by omega
  refine Ev.step ?_
  simp only [cohousingref28_Consistent.l0, h1, if_false]
  have := cons_l1 hg hxl (fun j hj => by have := hin j (by omega); have := hg.vol j hj; omega) l.length 0 (by omega)
  rw [show decide (Sol (netT l) (lo9 r) (hi9 r) (fx x)) = decide (∀ j, 0 ≤ j → j < l.length → (netT l).eq (fx x) j) from decide_eq_decide.2 ⟨fun h j _ hj => h.2 j hj, fun h => ⟨fun j hj => hin j (by simp only [netT] at hj; omega), fun j hj => h j (Nat.zero_le _) hj⟩⟩]
  exact this
 | succ d ih =>
  intro i hi hin
  have h1 : ((i : Int) < (l.length : Int)) := by omega
  have h2 : (0 : Int) ≤ (i : Int) := by omega
  have h3 : ((i : Int) < (x.length : Int)) := by omega
  have h4 : ((i : Int) < (r.length : Int)) := by omega
  have w1 : rd x (i : Int) = fx x i := rfl
  have w2 : (rd_T39 r (i : Int)).f0 = lo9 r i := rfl
  have w3 : (rd_T39 r (i : Int)).f1 = hi9 r i := rfl
  refine Ev.step ?_
  simp only [cohousingref28_Consistent.l0, h1, h2, h3, h4, if_true, w1, w2, w3, wrap_nat (show i ≤ 140737488355328 by omega)]
  by_cases c1 : fx x i < lo9 r i
  ·simp only [c1, if_true]
   rw [decide_eq_false (fun h => by have := h.1 i (by simp only [netT]; omega); omega)]
   exact Ev.pure _
  ·by_cases c2 : fx x i > hi9 r i
   ·simp only [c1, c2, if_true, if_false]
    rw [decide_eq_false (fun h => by have := h.1 i (by simp only [netT]; omega); omega)]
    exact Ev.pure _
   ·simp only [c1, c2, if_false]
    refine ih (i + 1) (by omega) (fun j hj => ?_)
    by_cases h' : j < i
    ·exact hin j h'
    ·rw [show j = i by omega]; omega
end
theorem ref_Consistent (l : List PI) (r : List RG) (x : List Int) (hl : l.length ≤ 5864062014805) (hr : r.length ≤ 140737488355328) : Ev (fun k => cohousingref28_Consistent.f k l r x) (consR l r x) := by
 have hbel : cohousingref28_Belongs.f l r = some (belongsB l.length r) := by unfold cohousingref28_Belongs.f; rw [if_pos ⟨by omega, hr⟩]
 rw [consR_is]
 unfold cohousingref28_Consistent.f
 refine Ev.bnd (valid_f l (by omega)) ?_
 simp only [hbel, Option.bind_some]
 by_cases hv : okL l ∧ l.length ≤ 200
 ·rw [decide_eq_true hv]
  simp only [if_true]
  by_cases hb : belongsB l.length r = true
  ·have hg := (good_iff l r).2 ⟨hv, hb⟩
   rw [hb]
   simp only [if_true]
   refine Ev.step ?_
   by_cases hx : x.length = l.length
   ·have e : ((x.length : Int) != (l.length : Int)) = false := by rw [hx]; simp
    rw [if_pos ⟨hg, hx⟩, e]
    simp only [cohousingref28_Consistent.j0, Bool.false_eq_true, if_false]
    exact cons_l0 hg hx l.length 0 (by omega) (fun j hj => absurd hj (Nat.not_lt_zero _))
   ·have e : ((x.length : Int) != (l.length : Int)) = true := by rw [bne_iff_ne]; omega
    rw [if_neg (fun h => hx h.2), e]
    simp only [cohousingref28_Consistent.j0, if_true]
    exact Ev.pure _
  ·rw [if_neg (fun h => hb ((good_iff l r).1 h.1).2)]
   rw [Bool.not_eq_true] at hb
   rw [hb]
   simp only [Bool.false_eq_true, if_false]
   refine Ev.step ?_
   simp only [cohousingref28_Consistent.j0, if_true]
   exact Ev.pure _
 ·rw [decide_eq_false hv, if_neg (fun h => hv ((good_iff l r).1 h.1).1)]
  simp only [Bool.false_eq_true, if_false]
  refine Ev.step ?_
  simp only [cohousingref28_Consistent.j0, if_true]
  exact Ev.pure _
end Go.Proofs.Ytmojlpafpeeelaa.P
end
