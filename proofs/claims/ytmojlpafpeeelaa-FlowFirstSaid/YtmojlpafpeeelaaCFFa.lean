/- Part 1 of the proof of FlowFirst: what it alone needs. -/
import Derived.Test.YtmojlpafpeeelaaCBd
set_option linter.unusedVariables false
set_option linter.unusedSimpArgs false
section
namespace Go.Proofs.Ytmojlpafpeeelaa.P
open Go.RowKit Go.Proofs.YtmojlpafpeeelaaW.PrintWords Go.Proofs.YtmojlpafpeeelaaW.PrintLast Go.Proofs.YtmojlpafpeeelaaW.PrintMore
attribute [local go_sem] max2_int min2_int max_two min_two max_three min_three max_four min_four
set_option linter.unusedVariables false
set_option linter.unusedSimpArgs false
mutual
def cohousinglaw28_FlowFirst.j0 : Nat → List (S44) → List (S39) → List Int → Int → Bool → Bool → Option (Bool)
 | 0, _, _, _, _, _, _ => none
 | k + 1, x0, x1, x2, x3, x9, x33 => if x33 = true then (some x9) else (if 0 ≤ x3 then (if x3 < (x2.length : Int) then ((flow_State.f x0 x1 x3 (rd x2 x3)).bind fun bt449 => (if bt449.2 = 0 then (cohousinglaw28_FlowFirst.j1 k x2 x9 bt449.1 ((bt449.1.length : Int) != (x2.length : Int))) else (cohousinglaw28_FlowFirst.j1 k x2 x9 bt449.1 true))) else (none)) else (none))
def cohousinglaw28_FlowFirst.j1 : Nat → List Int → Bool → List Int → Bool → Option (Bool)
 | 0, _, _, _, _ => none
 | k + 1, x2, x9, x10, x54 => if x54 = true then (some false) else (cohousinglaw28_FlowFirst.l0 k x2 x9 x10 (x2.length : Int) 0)
def cohousinglaw28_FlowFirst.l0 : Nat → List Int → Bool → List Int → Int → Int → Option (Bool)
 | 0, _, _, _, _, _ => none
 | k + 1, x2, x9, x10, x56, x57 => if x57 < x56 then (if 0 ≤ x57 then (if x57 < (x2.length : Int) then (if x57 < (x10.length : Int) then (if (rd x2 x57) = (rd x10 x57) then (cohousinglaw28_FlowFirst.l0 k x2 x9 x10 x56 (wrap64 (x57 + 1))) else (if x9 = true then (some (decide ((rd x10 x57) < (rd x2 x57)))) else (some false))) else (none)) else (none)) else (none)) else (some x9)
end
def cohousinglaw28_FlowFirst.f (k : Nat) (l0 : List (S44)) (l1 : List (S39)) (l2 : List Int) (a3 : Int) : Option (Bool) := (cohousinglaw28_head.f k).bind fun t446 => (if (l0.length : Int) > 40 then (cohousinglaw28_FlowFirst.j0 k l0 l1 l2 a3 t446 true) else ((cohousinglaw28_consistent.f l0 l1 l2).bind fun t447 => (if t447 = true then (if a3 < 0 then (cohousinglaw28_FlowFirst.j0 k l0 l1 l2 a3 t446 true) else (cohousinglaw28_FlowFirst.j0 k l0 l1 l2 a3 t446 (decide (a3 ≥ (l2.length : Int))))) else (cohousinglaw28_FlowFirst.j0 k l0 l1 l2 a3 t446 true))))
set_option maxHeartbeats 8000000 in
set_option maxRecDepth 100000 in
theorem cohousinglaw28_FlowFirst.calls (k : Nat) (A0 : Option Addr) (c0 : Nat) (l0 : List (S44)) (A1 : Option Addr) (c1 : Nat) (l1 : List (S39)) (A2 : Option Addr) (c2 : Nat) (l2 : List Int) (a3 : Int) (r : Bool) (w : World) (hr0 : Kd.C k44 w A0 l0.length l0) (hc0 : l0.length ≤ c0) (hr1 : Kd.C k39 w A1 l1.length l1) (hc1 : l1.length ≤ c1) (hr2 : Kd.C (Kd.int .i64) w A2 l2.length l2) (hc2 : l2.length ≤ c2) (h : cohousinglaw28_FlowFirst.f k l0 l1 l2 a3 = some r) :
  Calls Try.prog 8 #[.slice A0 l0.length c0, .slice A1 l1.length c1, .slice A2 l2.length c2, .int .i64 a3] w fun e w' => e = .returned (.bool r) ∧ Below w.heap.size w w' := by
 have HR0 := Aside0.mk hr0
 have HC0 := Aside0.mk hc0
 clear hr0 hc0
 have HR1 := Aside0.mk hr1
 have HC1 := Aside0.mk hc1
 clear hr1 hc1
 have HR2 := Aside0.mk hr2
 have HC2 := Aside0.mk hc2
 clear hr2 hc2
 have HB := Aside0.mk (Below.refl w.heap.size w)
 have H : ((cohousinglaw28_head.f k).bind fun t446 => (if (l0.length : Int) > 40 then (cohousinglaw28_FlowFirst.j0 k l0 l1 l2 a3 t446 true) else ((cohousinglaw28_consistent.f l0 l1 l2).bind fun t447 => (if t447 = true then (if a3 < 0 then (cohousinglaw28_FlowFirst.j0 k l0 l1 l2 a3 t446 true) else (cohousinglaw28_FlowFirst.j0 k l0 l1 l2 a3 t446 (decide (a3 ≥ (l2.length : Int))))) else (cohousinglaw28_FlowFirst.j0 k l0 l1 l2 a3 t446 true))))) = some r := h
 clear h
 replace H := Option.bind_eq_some_iff.mp H
 obtain ⟨t446, A50, H⟩ := H
 replace H : (if (l0.length : Int) > 40 then (cohousinglaw28_FlowFirst.j0 k l0 l1 l2 a3 t446 true) else ((cohousinglaw28_consistent.f l0 l1 l2).bind fun t447 => (if t447 = true then (if a3 < 0 then (cohousinglaw28_FlowFirst.j0 k l0 l1 l2 a3 t446 true) else (cohousinglaw28_FlowFirst.j0 k l0 l1 l2 a3 t446 (decide (a3 ≥ (l2.length : Int))))) else (cohousinglaw28_FlowFirst.j0 k l0 l1 l2 a3 t446 true)))) = some r := H
 have A5 := Aside0.mk A50
 clear A50
 have HC6 := Aside0.mk H
 clear H
 go_enter Try.func8, Try.ntmps8
 go_upto_region 2 with (first | (go_at_call 10; (with_reducible refine (cohousinglaw28_head.calls k  t446 _ A5.out).mono ?_); rintro e w7 ⟨rfl, hb⟩; have n0_ := Aside0.mk (below_step (by repeat (first | (with_reducible first | exact HB.out | apply below_alloc | apply pw_below_drewN | apply below_drew1) | exact HB.out)) hb); clear HB; have HB := n0_; clear n0_; (try clear hb); (try clear hb2); (try clear hk); (try clear hi)))
 repeat (go_quiet (first | (go_at_call 10; (with_reducible refine (cohousinglaw28_head.calls k  t446 _ A5.out).mono ?_); rintro e w7 ⟨rfl, hb⟩; have n0_ := Aside0.mk (below_step (by repeat (first | (with_reducible first | exact HB.out | apply below_alloc | apply pw_below_drewN | apply below_drew1) | exact HB.out)) hb); clear HB; have HB := n0_; clear n0_; (try clear hb); (try clear hb2); (try clear hk); (try clear hi))); go_upto_region 2 with (first | (go_at_call 10; (with_reducible refine (cohousinglaw28_head.calls k  t446 _ A5.out).mono ?_); rintro e w7 ⟨rfl, hb⟩; have n0_ := Aside0.mk (below_step (by repeat (first | (with_reducible first | exact HB.out | apply below_alloc | apply pw_below_drewN | apply below_drew1) | exact HB.out)) hb); clear HB; have HB := n0_; clear n0_; (try clear hb); (try clear hb2); (try clear hk); (try clear hi))))
 (try simp only [Act.put, sI_, s0_, sS_])
 go_cut [33] (fun v33 wc => ∃ (kq : Nat) (x33_5 : Bool), v33 = .bool x33_5 ∧ Aside0 (cohousinglaw28_FlowFirst.j0 kq l0 l1 l2 a3 t446 x33_5 = some r) ∧ Aside0 (kq ≤ k) ∧ Aside0 (Below w.heap.size w wc))
 case first =>
  have H := HC6.out
  clear HC6
  by_cases c8 : (l0.length : Int) > 40
  ·rw [if_pos c8] at H
   have c8b0 : decide (40 < (l0.length : Int)) = true := decide_eq_true c8
   have c8b1 : decide (40 < l0.length) = true := decide_eq_true (by omega)
   clear c8
   (first | rw [c8b0] | (simp only [i64_w, i32_w]; rw [c8b0]) | skip)
   have H' := Aside0.mk H
   clear H
   go_wp2
   repeat (go_quiet (fail); try go_wp2)
   go_meet
   case rel => exact ⟨_, (true), (by first | rfl | (simp; done) | (simp [*]; done)), H', ⟨by first | omega | exact Nat.le_refl _⟩, ⟨by repeat (first | (with_reducible first | exact HB.out | apply below_alloc | apply pw_below_drewN | apply below_drew1) | exact HB.out)⟩⟩
  ·rw [if_neg c8] at H
   have c8b0 : decide (40 < (l0.length : Int)) = false := decide_eq_false c8
   have c8b1 : decide (40 < l0.length) = false := decide_eq_false (by omega)
   clear c8
   (first | rw [c8b0] | (simp only [i64_w, i32_w]; rw [c8b0]) | skip)
   replace H := Option.bind_eq_some_iff.mp H
   obtain ⟨t447, A90, H⟩ := H
   replace H : (if t447 = true then (if a3 < 0 then (cohousinglaw28_FlowFirst.j0 k l0 l1 l2 a3 t446 true) else (cohousinglaw28_FlowFirst.j0 k l0 l1 l2 a3 t446 (decide (a3 ≥ (l2.length : Int))))) else (cohousinglaw28_FlowFirst.j0 k l0 l1 l2 a3 t446 true)) = some r := H
   have A9 := Aside0.mk A90
   clear A90
   by_cases c10 : t447 = true
   ·subst c10
    have H1 : (if a3 < 0 then (cohousinglaw28_FlowFirst.j0 k l0 l1 l2 a3 t446 true) else (cohousinglaw28_FlowFirst.j0 k l0 l1 l2 a3 t446 (decide (a3 ≥ (l2.length : Int))))) = some r := by rw [if_pos rfl] at H; exact H
    clear H
    have H := H1
    clear H1
    by_cases c11 : a3 < 0
    ·rw [if_pos c11] at H
     have c11b0 : decide (a3 < 0) = true := decide_eq_true c11
     clear c11
     have H' := Aside0.mk H
     clear H
     go_wp2_with (first | (go_at_call 22; (with_reducible refine (cohousinglaw28_consistent.calls _ _ l0 _ _ l1 _ _ l2 true _ ?side1 ?side2 ?side3 ?side4 ?side5 ?side6 A9.out).mono ?_); (case side1 => repeat (first | exact (Kd.C_below HR0.out HB.out) | (with_reducible refine Kd.C_alloc ?_ _) | (with_reducible refine Kd.C_drewN ?_ _) | (with_reducible refine Kd.C_drew ?_))); (case side2 => exact HC0.out); (case side3 => repeat (first | exact (Kd.C_below HR1.out HB.out) | (with_reducible refine Kd.C_alloc ?_ _) | (with_reducible refine Kd.C_drewN ?_ _) | (with_reducible refine Kd.C_drew ?_))); (case side4 => exact HC1.out); (case side5 => repeat (first | exact (Kd.C_below HR2.out HB.out) | (with_reducible refine Kd.C_alloc ?_ _) | (with_reducible refine Kd.C_drewN ?_ _) | (with_reducible refine Kd.C_drew ?_))); (case side6 => exact HC2.out); rintro e w12 ⟨rfl, hb⟩; have n0_ := Aside0.mk (below_step (by repeat (first | (with_reducible first | exact HB.out | apply below_alloc | apply pw_below_drewN | apply below_drew1) | exact HB.out)) hb); clear HB; have HB := n0_; clear n0_; (try clear hb); (try clear hb2); (try clear hk); (try clear hi)))
     repeat (go_quiet (first | (go_at_call 22; (with_reducible refine (cohousinglaw28_consistent.calls _ _ l0 _ _ l1 _ _ l2 true _ ?side1 ?side2 ?side3 ?side4 ?side5 ?side6 A9.out).mono ?_); (case side1 => repeat (first | exact (Kd.C_below HR0.out HB.out) | (with_reducible refine Kd.C_alloc ?_ _) | (with_reducible refine Kd.C_drewN ?_ _) | (with_reducible refine Kd.C_drew ?_))); (case side2 => exact HC0.out); (case side3 => repeat (first | exact (Kd.C_below HR1.out HB.out) | (with_reducible refine Kd.C_alloc ?_ _) | (with_reducible refine Kd.C_drewN ?_ _) | (with_reducible refine Kd.C_drew ?_))); (case side4 => exact HC1.out); (case side5 => repeat (first | exact (Kd.C_below HR2.out HB.out) | (with_reducible refine Kd.C_alloc ?_ _) | (with_reducible refine Kd.C_drewN ?_ _) | (with_reducible refine Kd.C_drew ?_))); (case side6 => exact HC2.out); rintro e w12 ⟨rfl, hb⟩; have n0_ := Aside0.mk (below_step (by repeat (first | (with_reducible first | exact HB.out | apply below_alloc | apply pw_below_drewN | apply below_drew1) | exact HB.out)) hb); clear HB; have HB := n0_; clear n0_; (try clear hb); (try clear hb2); (try clear hk); (try clear hi))); try go_wp2_with (first | (go_at_call 22; (with_reducible refine (cohousinglaw28_consistent.calls _ _ l0 _ _ l1 _ _ l2 true _ ?side1 ?side2 ?side3 ?side4 ?side5 ?side6 A9.out).mono ?_); (case side1 => repeat (first | exact (Kd.C_below HR0.out HB.out) | (with_reducible refine Kd.C_alloc ?_ _) | (with_reducible refine Kd.C_drewN ?_ _) | (with_reducible refine Kd.C_drew ?_))); (case side2 => exact HC0.out); (case side3 => repeat (first | exact (Kd.C_below HR1.out HB.out) | (with_reducible refine Kd.C_alloc ?_ _) | (with_reducible refine Kd.C_drewN ?_ _) | (with_reducible refine Kd.C_drew ?_))); (case side4 => exact HC1.out); (case side5 => repeat (first | exact (Kd.C_below HR2.out HB.out) | (with_reducible refine Kd.C_alloc ?_ _) | (with_reducible refine Kd.C_drewN ?_ _) | (with_reducible refine Kd.C_drew ?_))); (case side6 => exact HC2.out); rintro e w12 ⟨rfl, hb⟩; have n0_ := Aside0.mk (below_step (by repeat (first | (with_reducible first | exact HB.out | apply below_alloc | apply pw_below_drewN | apply below_drew1) | exact HB.out)) hb); clear HB; have HB := n0_; clear n0_; (try clear hb); (try clear hb2); (try clear hk); (try clear hi))))
     go_meet
     case rel => exact ⟨_, (true), (by first | rfl | (simp; done) | (simp [*]; done)), H', ⟨by first | omega | exact Nat.le_refl _⟩, ⟨by repeat (first | (with_reducible first | exact HB.out | apply below_alloc | apply pw_below_drewN | apply below_drew1) | exact HB.out)⟩⟩
    ·rw [if_neg c11] at H
     have c11b0 : decide (a3 < 0) = false := decide_eq_false c11
     clear c11
     have H' := Aside0.mk H
     clear H
     go_wp2_with (first | (go_at_call 22; (with_reducible refine (cohousinglaw28_consistent.calls _ _ l0 _ _ l1 _ _ l2 true _ ?side1 ?side2 ?side3 ?side4 ?side5 ?side6 A9.out).mono ?_); (case side1 => repeat (first | exact (Kd.C_below HR0.out HB.out) | (with_reducible refine Kd.C_alloc ?_ _) | (with_reducible refine Kd.C_drewN ?_ _) | (with_reducible refine Kd.C_drew ?_))); (case side2 => exact HC0.out); (case side3 => repeat (first | exact (Kd.C_below HR1.out HB.out) | (with_reducible refine Kd.C_alloc ?_ _) | (with_reducible refine Kd.C_drewN ?_ _) | (with_reducible refine Kd.C_drew ?_))); (case side4 => exact HC1.out); (case side5 => repeat (first | exact (Kd.C_below HR2.out HB.out) | (with_reducible refine Kd.C_alloc ?_ _) | (with_reducible refine Kd.C_drewN ?_ _) | (with_reducible refine Kd.C_drew ?_))); (case side6 => exact HC2.out); rintro e w13 ⟨rfl, hb⟩; have n0_ := Aside0.mk (below_step (by repeat (first | (with_reducible first | exact HB.out | apply below_alloc | apply pw_below_drewN | apply below_drew1) | exact HB.out)) hb); clear HB; have HB := n0_; clear n0_; (try clear hb); (try clear hb2); (try clear hk); (try clear hi)))
     repeat (go_quiet (first | (go_at_call 22; (with_reducible refine (cohousinglaw28_consistent.calls _ _ l0 _ _ l1 _ _ l2 true _ ?side1 ?side2 ?side3 ?side4 ?side5 ?side6 A9.out).mono ?_); (case side1 => repeat (first | exact (Kd.C_below HR0.out HB.out) | (with_reducible refine Kd.C_alloc ?_ _) | (with_reducible refine Kd.C_drewN ?_ _) | (with_reducible refine Kd.C_drew ?_))); (case side2 => exact HC0.out); (case side3 => repeat (first | exact (Kd.C_below HR1.out HB.out) | (with_reducible refine Kd.C_alloc ?_ _) | (with_reducible refine Kd.C_drewN ?_ _) | (with_reducible refine Kd.C_drew ?_))); (case side4 => exact HC1.out); (case side5 => repeat (first | exact (Kd.C_below HR2.out HB.out) | (with_reducible refine Kd.C_alloc ?_ _) | (with_reducible refine Kd.C_drewN ?_ _) | (with_reducible refine Kd.C_drew ?_))); (case side6 => exact HC2.out); rintro e w13 ⟨rfl, hb⟩; have n0_ := Aside0.mk (below_step (by repeat (first | (with_reducible first | exact HB.out | apply below_alloc | apply pw_below_drewN | apply below_drew1) | exact HB.out)) hb); clear HB; have HB := n0_; clear n0_; (try clear hb); (try clear hb2); (try clear hk); (try clear hi))); try go_wp2_with (first | (go_at_call 22; (with_reducible refine (cohousinglaw28_consistent.calls _ _ l0 _ _ l1 _ _ l2 true _ ?side1 ?side2 ?side3 ?side4 ?side5 ?side6 A9.out).mono ?_); (case side1 => repeat (first | exact (Kd.C_below HR0.out HB.out) | (with_reducible refine Kd.C_alloc ?_ _) | (with_reducible refine Kd.C_drewN ?_ _) | (with_reducible refine Kd.C_drew ?_))); (case side2 => exact HC0.out); (case side3 => repeat (first | exact (Kd.C_below HR1.out HB.out) | (with_reducible refine Kd.C_alloc ?_ _) | (with_reducible refine Kd.C_drewN ?_ _) | (with_reducible refine Kd.C_drew ?_))); (case side4 => exact HC1.out); (case side5 => repeat (first | exact (Kd.C_below HR2.out HB.out) | (with_reducible refine Kd.C_alloc ?_ _) | (with_reducible refine Kd.C_drewN ?_ _) | (with_reducible refine Kd.C_drew ?_))); (case side6 => exact HC2.out); rintro e w13 ⟨rfl, hb⟩; have n0_ := Aside0.mk (below_step (by repeat (first | (with_reducible first | exact HB.out | apply below_alloc | apply pw_below_drewN | apply below_drew1) | exact HB.out)) hb); clear HB; have HB := n0_; clear n0_; (try clear hb); (try clear hb2); (try clear hk); (try clear hi))))
     go_meet
     case rel => exact ⟨_, (decide (a3 ≥ (l2.length : Int))), (by first | rfl | (simp; done) | (simp [*]; done)), H', ⟨by first | omega | exact Nat.le_refl _⟩, ⟨by repeat (first | (with_reducible first | exact HB.out | apply below_alloc | apply pw_below_drewN | apply below_drew1) | exact HB.out)⟩⟩
   ·replace c10 := Bool.eq_false_iff.mpr c10
    subst c10
    have H1 : (cohousinglaw28_FlowFirst.j0 k l0 l1 l2 a3 t446 true) = some r := by rw [if_neg (show ¬ (false = true) by decide)] at H; exact H
    clear H
    have H := H1
    clear H1
    have H' := Aside0.mk H
    clear H
    go_wp2_with (first | (go_at_call 22; (with_reducible refine (cohousinglaw28_consistent.calls _ _ l0 _ _ l1 _ _ l2 false _ ?side1 ?side2 ?side3 ?side4 ?side5 ?side6 A9.out).mono ?_); (case side1 => repeat (first | exact (Kd.C_below HR0.out HB.out) | (with_reducible refine Kd.C_alloc ?_ _) | (with_reducible refine Kd.C_drewN ?_ _) | (with_reducible refine Kd.C_drew ?_))); (case side2 => exact HC0.out); (case side3 => repeat (first | exact (Kd.C_below HR1.out HB.out) | (with_reducible refine Kd.C_alloc ?_ _) | (with_reducible refine Kd.C_drewN ?_ _) | (with_reducible refine Kd.C_drew ?_))); (case side4 => exact HC1.out); (case side5 => repeat (first | exact (Kd.C_below HR2.out HB.out) | (with_reducible refine Kd.C_alloc ?_ _) | (with_reducible refine Kd.C_drewN ?_ _) | (with_reducible refine Kd.C_drew ?_))); (case side6 => exact HC2.out); rintro e w14 ⟨rfl, hb⟩; have n0_ := Aside0.mk (below_step (by repeat (first | (with_reducible first | exact HB.out | apply below_alloc | apply pw_below_drewN | apply below_drew1) | exact HB.out)) hb); clear HB; have HB := n0_; clear n0_; (try clear hb); (try clear hb2); (try clear hk); (try clear hi)))
    repeat (go_quiet (first | (go_at_call 22; (with_reducible refine (cohousinglaw28_consistent.calls _ _ l0 _ _ l1 _ _ l2 false _ ?side1 ?side2 ?side3 ?side4 ?side5 ?side6 A9.out).mono ?_); (case side1 => repeat (first | exact (Kd.C_below HR0.out HB.out) | (with_reducible refine Kd.C_alloc ?_ _) | (with_reducible refine Kd.C_drewN ?_ _) | (with_reducible refine Kd.C_drew ?_))); (case side2 => exact HC0.out); (case side3 => repeat (first | exact (Kd.C_below HR1.out HB.out) | (with_reducible refine Kd.C_alloc ?_ _) | (with_reducible refine Kd.C_drewN ?_ _) | (with_reducible refine Kd.C_drew ?_))); (case side4 => exact HC1.out); (case side5 => repeat (first | exact (Kd.C_below HR2.out HB.out) | (with_reducible refine Kd.C_alloc ?_ _) | (with_reducible refine Kd.C_drewN ?_ _) | (with_reducible refine Kd.C_drew ?_))); (case side6 => exact HC2.out); rintro e w14 ⟨rfl, hb⟩; have n0_ := Aside0.mk (below_step (by repeat (first | (with_reducible first | exact HB.out | apply below_alloc | apply pw_below_drewN | apply below_drew1) | exact HB.out)) hb); clear HB; have HB := n0_; clear n0_; (try clear hb); (try clear hb2); (try clear hk); (try clear hi))); try go_wp2_with (first | (go_at_call 22; (with_reducible refine (cohousinglaw28_consistent.calls _ _ l0 _ _ l1 _ _ l2 false _ ?side1 ?side2 ?side3 ?side4 ?side5 ?side6 A9.out).mono ?_); (case side1 => repeat (first | exact (Kd.C_below HR0.out HB.out) | (with_reducible refine Kd.C_alloc ?_ _) | (with_reducible refine Kd.C_drewN ?_ _) | (with_reducible refine Kd.C_drew ?_))); (case side2 => exact HC0.out); (case side3 => repeat (first | exact (Kd.C_below HR1.out HB.out) | (with_reducible refine Kd.C_alloc ?_ _) | (with_reducible refine Kd.C_drewN ?_ _) | (with_reducible refine Kd.C_drew ?_))); (case side4 => exact HC1.out); (case side5 => repeat (first | exact (Kd.C_below HR2.out HB.out) | (with_reducible refine Kd.C_alloc ?_ _) | (with_reducible refine Kd.C_drewN ?_ _) | (with_reducible refine Kd.C_drew ?_))); (case side6 => exact HC2.out); rintro e w14 ⟨rfl, hb⟩; have n0_ := Aside0.mk (below_step (by repeat (first | (with_reducible first | exact HB.out | apply below_alloc | apply pw_below_drewN | apply below_drew1) | exact HB.out)) hb); clear HB; have HB := n0_; clear n0_; (try clear hb); (try clear hb2); (try clear hk); (try clear hi))))
    go_meet
    case rel => exact ⟨_, (true), (by first | rfl | (simp; done) | (simp [*]; done)), H', ⟨by first | omega | exact Nat.le_refl _⟩, ⟨by repeat (first | (with_reducible first | exact HB.out | apply below_alloc | apply pw_below_drewN | apply below_drew1) | exact HB.out)⟩⟩
 case rest =>
  clear HC6
  try clear c1
  try clear c2
  try clear p2
  try clear c8
  try clear c8b0
  try clear c8b1
  try clear c10
  try clear c11
  try clear c11b0
  obtain ⟨kq, x33_5, rfl, HA, HJ5, HB⟩ := hcut
  cases kq with
  | zero => exact absurd HA.out (by simp [cohousinglaw28_FlowFirst.j0])
  | succ kj5 =>
   have H := HA.out
   clear HA
   simp only [cohousinglaw28_FlowFirst.j0] at H
   by_cases c15 : x33_5 = true
   ·subst c15
    have H1 : (some t446) = some r := by rw [if_pos rfl] at H; exact H
    clear H
    have H := H1
    clear H1
    obtain rfl := Option.some.inj H
    go_wp2
    repeat (go_quiet (fail); try go_wp2)
    go_ret
    exact ⟨by first | rfl | (simp [errW_none, errW_some] <;> rfl) | (simp [*, errW_none, errW_some] <;> rfl), by repeat (first | (with_reducible first | exact HB.out | apply below_alloc | apply pw_below_drewN | apply below_drew1) | exact HB.out)⟩
   ·replace c15 := Bool.eq_false_iff.mpr c15
    subst c15
    have H1 : (if 0 ≤ a3 then (if a3 < (l2.length : Int) then ((flow_State.f l0 l1 a3 (rd l2 a3)).bind fun bt449 => (if bt449.2 = 0 then (cohousinglaw28_FlowFirst.j1 kj5 l2 t446 bt449.1 ((bt449.1.length : Int) != (l2.length : Int))) else (cohousinglaw28_FlowFirst.j1 kj5 l2 t446 bt449.1 true))) else (none)) else (none)) = some r := by rw [if_neg (show ¬ (false = true) by decide)] at H; exact H
    clear H
    have H := H1
    clear H1
    by_cases c16 : 0 ≤ a3
    ·rw [if_pos c16] at H
     have c16b0 : decide (0 ≤ a3) = true := decide_eq_true c16
     clear c16
     by_cases c17 : a3 < (l2.length : Int)
     ·rw [if_pos c17] at H
      have c17b0 : decide (a3 < (l2.length : Int)) = true := decide_eq_true c17
      clear c17
      replace H := Option.bind_eq_some_iff.mp H
      obtain ⟨⟨t449, t450⟩, A180, H⟩ := H
      replace H : (if t450 = 0 then (cohousinglaw28_FlowFirst.j1 kj5 l2 t446 t449 ((t449.length : Int) != (l2.length : Int))) else (cohousinglaw28_FlowFirst.j1 kj5 l2 t446 t449 true)) = some r := H
      have A18 := Aside0.mk A180
      clear A180
      have HC19 := Aside0.mk H
      clear H
      have p448 : 0 ≤ (a3 : Int) := of_decide_eq_true (by first | (with_reducible assumption) | assumption)
      have q448 : a3 < (l2.length : Int) := of_decide_eq_true (by first | (with_reducible assumption) | assumption)
      obtain ⟨ad448, e448, hx448_0⟩ := Kd.at_int HR2.out a3 p448 q448
      cases e448
      replace hx448_0 := (HB.out.cell (World.block_lt_of_cell? w _ hx448_0)).trans hx448_0
      replace p448 := eq_true p448
      replace q448 := eq_true q448
      go_upto_region 5 with (first | (go_at_call 18; (with_reducible refine (flow_State.calls _ _ l0 _ _ l1 a3 (rd l2 a3) t449 t450 _ ?side1 ?side2 ?side3 ?side4 A18.out).mono ?_); (case side1 => repeat (first | exact (Kd.C_below HR0.out HB.out) | (with_reducible refine Kd.C_alloc ?_ _) | (with_reducible refine Kd.C_drewN ?_ _) | (with_reducible refine Kd.C_drew ?_))); (case side2 => exact HC0.out); (case side3 => repeat (first | exact (Kd.C_below HR1.out HB.out) | (with_reducible refine Kd.C_alloc ?_ _) | (with_reducible refine Kd.C_drewN ?_ _) | (with_reducible refine Kd.C_drew ?_))); (case side4 => exact HC1.out); rintro e w20 ⟨v451, rfl, ho0, hb⟩; have n0_ := Aside0.mk (Kd.R_lower ho0 (below_size (by repeat (first | (with_reducible first | exact HB.out | apply below_alloc | apply pw_below_drewN | apply below_drew1) | exact HB.out)))); have n1_ := Aside0.mk (below_step (by repeat (first | (with_reducible first | exact HB.out | apply below_alloc | apply pw_below_drewN | apply below_drew1) | exact HB.out)) hb); clear HB; have HO452 := n0_; have HB := n1_; clear n0_ n1_; (try clear hb); (try clear hb2); (try clear hk); (try clear hi); (try clear ho0)))
      repeat (go_quiet (first | (go_at_call 18; (with_reducible refine (flow_State.calls _ _ l0 _ _ l1 a3 (rd l2 a3) t449 t450 _ ?side1 ?side2 ?side3 ?side4 A18.out).mono ?_); (case side1 => repeat (first | exact (Kd.C_below HR0.out HB.out) | (with_reducible refine Kd.C_alloc ?_ _) | (with_reducible refine Kd.C_drewN ?_ _) | (with_reducible refine Kd.C_drew ?_))); (case side2 => exact HC0.out); (case side3 => repeat (first | exact (Kd.C_below HR1.out HB.out) | (with_reducible refine Kd.C_alloc ?_ _) | (with_reducible refine Kd.C_drewN ?_ _) | (with_reducible refine Kd.C_drew ?_))); (case side4 => exact HC1.out); rintro e w20 ⟨v451, rfl, ho0, hb⟩; have n0_ := Aside0.mk (Kd.R_lower ho0 (below_size (by repeat (first | (with_reducible first | exact HB.out | apply below_alloc | apply pw_below_drewN | apply below_drew1) | exact HB.out)))); have n1_ := Aside0.mk (below_step (by repeat (first | (with_reducible first | exact HB.out | apply below_alloc | apply pw_below_drewN | apply below_drew1) | exact HB.out)) hb); clear HB; have HO452 := n0_; have HB := n1_; clear n0_ n1_; (try clear hb); (try clear hb2); (try clear hk); (try clear hi); (try clear ho0))); go_upto_region 5 with (first | (go_at_call 18; (with_reducible refine (flow_State.calls _ _ l0 _ _ l1 a3 (rd l2 a3) t449 t450 _ ?side1 ?side2 ?side3 ?side4 A18.out).mono ?_); (case side1 => repeat (first | exact (Kd.C_below HR0.out HB.out) | (with_reducible refine Kd.C_alloc ?_ _) | (with_reducible refine Kd.C_drewN ?_ _) | (with_reducible refine Kd.C_drew ?_))); (case side2 => exact HC0.out); (case side3 => repeat (first | exact (Kd.C_below HR1.out HB.out) | (with_reducible refine Kd.C_alloc ?_ _) | (with_reducible refine Kd.C_drewN ?_ _) | (with_reducible refine Kd.C_drew ?_))); (case side4 => exact HC1.out); rintro e w20 ⟨v451, rfl, ho0, hb⟩; have n0_ := Aside0.mk (Kd.R_lower ho0 (below_size (by repeat (first | (with_reducible first | exact HB.out | apply below_alloc | apply pw_below_drewN | apply below_drew1) | exact HB.out)))); have n1_ := Aside0.mk (below_step (by repeat (first | (with_reducible first | exact HB.out | apply below_alloc | apply pw_below_drewN | apply below_drew1) | exact HB.out)) hb); clear HB; have HO452 := n0_; have HB := n1_; clear n0_ n1_; (try clear hb); (try clear hb2); (try clear hk); (try clear hi); (try clear ho0))))
      (try simp only [Act.put, sI_, s0_, sS_])
      go_cut [54] (fun v54 wc => ∃ (kq : Nat) (x54_18 : Bool), v54 = .bool x54_18 ∧ Aside0 (cohousinglaw28_FlowFirst.j1 kq l2 t446 t449 x54_18 = some r) ∧ Aside0 (kq ≤ kj5) ∧ Aside0 (Kd.R (Kd.int .i64) 3 wc w.heap.size (fun _ => True) v451 t449) ∧ Aside0 (Below w.heap.size w wc))
      case first =>
       have H := HC19.out
       clear HC19
       by_cases c21 : t450 = 0
       ·rw [if_pos c21] at H
        have c21b0 : (t450 == 0) = true := beq_iff_eq.mpr c21
        have c21b1 : (t450 != 0) = false := bne_eq_false_iff_eq.mpr c21
        clear c21
        (first | rw [c21b0] | (simp only [i64_w, i32_w]; rw [c21b0]) | skip)
        have H' := Aside0.mk H
        clear H
        obtain ⟨Ao22, co22, eo22⟩ := Kd.R_slice HO452.out
        subst eo22
        go_wp2
        repeat (go_quiet (fail); try go_wp2)
        go_meet
        case rel => exact ⟨_, (((t449.length : Int) != (l2.length : Int))), (by first | rfl | (simp; done) | (simp [*]; done)), H', ⟨by have := HJ5.out; first | omega | exact Nat.le_refl _⟩, ⟨by (with_reducible repeat (first | apply Kd.R_alloc | apply Kd.R_drewN | apply Kd.R_drew)); exact HO452.out⟩, ⟨by repeat (first | (with_reducible first | exact HB.out | apply below_alloc | apply pw_below_drewN | apply below_drew1) | exact HB.out)⟩⟩
       ·rw [if_neg c21] at H
        have c21b0 : (t450 == 0) = false := beq_eq_false_iff_ne.mpr c21
        have c21b1 : (t450 != 0) = true := bne_iff_ne.mpr c21
        (first | rw [c21b0] | (simp only [i64_w, i32_w]; rw [c21b0]) | skip)
        have H' := Aside0.mk H
        clear H
        go_wp2
        repeat (go_quiet (fail); try go_wp2)
        go_meet
        case rel => exact ⟨_, (true), (by first | rfl | (simp; done) | (simp [*]; done)), H', ⟨by have := HJ5.out; first | omega | exact Nat.le_refl _⟩, ⟨by (with_reducible repeat (first | apply Kd.R_alloc | apply Kd.R_drewN | apply Kd.R_drew)); exact HO452.out⟩, ⟨by repeat (first | (with_reducible first | exact HB.out | apply below_alloc | apply pw_below_drewN | apply below_drew1) | exact HB.out)⟩⟩
      case rest =>
       clear HC19
       try clear c1
       try clear c2
       try clear p2
       try clear p4
       try clear q4
       try clear hx4
       try clear c8
       try clear c8b0
       try clear c8b1
       try clear c10
       try clear c11
       try clear c11b0
       try clear c15
       try clear c16
       try clear c16b0
       try clear c17
       try clear c17b0
       try clear c21
       try clear c21b0
       try clear c21b1
       try clear hx448_0
       try clear p2
       try clear p448
       try clear q448
       obtain ⟨kq, x54_18, rfl, HA, HJ18, HO_10, HB⟩ := hcut
       cases kq with
       | zero => exact absurd HA.out (by simp [cohousinglaw28_FlowFirst.j1])
       | succ kj18 =>
        have H := HA.out
        clear HA
        simp only [cohousinglaw28_FlowFirst.j1] at H
        by_cases c23 : x54_18 = true
        ·subst c23
         have H1 : (some false) = some r := by rw [if_pos rfl] at H; exact H
         clear H
         have H := H1
         clear H1
         obtain rfl := Option.some.inj H
         go_wp2
         repeat (go_quiet (fail); try go_wp2)
         go_ret
         exact ⟨by first | rfl | (simp [errW_none, errW_some] <;> rfl) | (simp [*, errW_none, errW_some] <;> rfl), by repeat (first | (with_reducible first | exact HB.out | apply below_alloc | apply pw_below_drewN | apply below_drew1) | exact HB.out)⟩
        ·replace c23 := Bool.eq_false_iff.mpr c23
         subst c23
         have H1 : (cohousinglaw28_FlowFirst.l0 kj18 l2 t446 t449 (l2.length : Int) 0) = some r := by rw [if_neg (show ¬ (false = true) by decide)] at H; exact H
         clear H
         have H := H1
         clear H1
         have H' := Aside0.mk H
         clear H
         go_wp2
         repeat (go_quiet (fail); try go_wp2)
         go_loopg [57] kj18 (fun kq v57 w' => ∃ (x57_3 : Int), v57 = .int .i64 x57_3 ∧ Aside0 (cohousinglaw28_FlowFirst.l0 kq l2 t446 t449 (l2.length : Int) x57_3 = some r) ∧ Aside0 (kq ≤ kj18) ∧ Aside0 (Kd.R (Kd.int .i64) 3 w' w.heap.size (fun _ => True) v451 t449) ∧ Aside0 (Below w.heap.size w w'))
         case atStart => exact ⟨(0), (by first | rfl | (simp; done) | (simp [*]; done)), H', ⟨Nat.le_refl _⟩, ⟨by (with_reducible repeat (first | apply Kd.R_alloc | apply Kd.R_drewN | apply Kd.R_drew)); exact HO_10.out⟩, ⟨by repeat (first | (with_reducible first | exact HB.out | apply below_alloc | apply pw_below_drewN | apply below_drew1) | exact HB.out)⟩⟩
         case round =>
          clear H'
          try clear c1
          try clear c2
          try clear p2
          try clear p4
          try clear q4
          try clear hx4
          try clear c8
          try clear c8b0
          try clear c8b1
          try clear c10
          try clear c11
          try clear c11b0
          try clear c15
          try clear c16
          try clear c16b0
          try clear c17
          try clear c17b0
          try clear c21
          try clear c21b0
          try clear c21b1
          try clear c23
          try clear hx448_0
          try clear p2
          try clear p4
          try clear p448
          try clear q4
          try clear q448
          obtain ⟨x57_3, rfl, HA, HK3, HO_10, HB⟩ := hrel
          cases gk with
          | zero => exact absurd HA.out (by simp [cohousinglaw28_FlowFirst.l0])
          | succ k3 =>
           have H := HA.out
           clear HA
           simp only [cohousinglaw28_FlowFirst.l0] at H
           by_cases c24 : x57_3 < (l2.length : Int)
           ·rw [if_pos c24] at H
            have c24b0 : decide (x57_3 < (l2.length : Int)) = true := decide_eq_true c24
            clear c24
            by_cases c25 : 0 ≤ x57_3
            ·rw [if_pos c25] at H
             have c25b0 : decide (0 ≤ x57_3) = true := decide_eq_true c25
             clear c25
             by_cases c26 : x57_3 < (l2.length : Int)
             ·rw [if_pos c26] at H
              have c26b0 : decide (x57_3 < (l2.length : Int)) = true := decide_eq_true c26
              clear c26
              by_cases c27 : x57_3 < (t449.length : Int)
              ·rw [if_pos c27] at H
               have c27b0 : decide (x57_3 < (t449.length : Int)) = true := decide_eq_true c27
               clear c27
               by_cases c28 : (rd l2 x57_3) = (rd t449 x57_3)
               ·rw [if_pos c28] at H
                have c28b0 : ((rd l2 x57_3) == (rd t449 x57_3)) = true := beq_iff_eq.mpr c28
                have c28b1 : ((rd l2 x57_3) != (rd t449 x57_3)) = false := bne_eq_false_iff_eq.mpr c28
                clear c28
                have H' := Aside0.mk H
                clear H
                have p453 : 0 ≤ (x57_3 : Int) := of_decide_eq_true (by first | (with_reducible assumption) | assumption)
                have q453 : x57_3 < (l2.length : Int) := of_decide_eq_true (by first | (with_reducible assumption) | assumption)
                obtain ⟨ad453, e453, hx453_0⟩ := Kd.at_int HR2.out x57_3 p453 q453
                obtain rfl : ad448 = ad453 := (by injection e453)
                replace hx453_0 := (HB.out.cell (World.block_lt_of_cell? w _ hx453_0)).trans hx453_0
                replace p453 := eq_true p453
                replace q453 := eq_true q453
                obtain ⟨Ao29, co29, eo29⟩ := Kd.R_slice HO_10.out
                subst eo29
                have p454 : 0 ≤ (x57_3 : Int) := of_decide_eq_true (by first | (with_reducible assumption) | assumption)
                have q454 : x57_3 < (t449.length : Int) := of_decide_eq_true (by first | (with_reducible assumption) | assumption)
                obtain ⟨ad454, e454, hx454_0⟩ := Kd.at_int (Kd.R_reads' HO_10.out).2.2 x57_3 p454 q454
                cases e454
                replace p454 := eq_true p454
                replace q454 := eq_true q454
                go_wp2
                repeat (go_quiet (fail); try go_wp2)
                go_roundg k3
                case measure => have := HJ5.out; have := HJ18.out; have := HK3.out; omega
                case rel => exact ⟨(wrap64 (x57_3 + 1)), (by first | rfl | (simp; done) | (simp [*]; done)), H', ⟨by have := HJ5.out; have := HJ18.out; have := HK3.out; omega⟩, ⟨by (with_reducible repeat (first | apply Kd.R_alloc | apply Kd.R_drewN | apply Kd.R_drew)); exact HO_10.out⟩, ⟨by repeat (first | (with_reducible first | exact HB.out | apply below_alloc | apply pw_below_drewN | apply below_drew1) | exact HB.out)⟩⟩
               ·rw [if_neg c28] at H
                have c28b0 : ((rd l2 x57_3) == (rd t449 x57_3)) = false := beq_eq_false_iff_ne.mpr c28
                have c28b1 : ((rd l2 x57_3) != (rd t449 x57_3)) = true := bne_iff_ne.mpr c28
                by_cases c30 : t446 = true
                ·subst c30
                 have H1 : (some (decide ((rd t449 x57_3) < (rd l2 x57_3)))) = some r := by rw [if_pos rfl] at H; exact H
                 clear H
                 have H := H1
                 clear H1
                 obtain rfl := Option.some.inj H
                 have p453 : 0 ≤ (x57_3 : Int) := of_decide_eq_true (by first | (with_reducible assumption) | assumption)
                 have q453 : x57_3 < (l2.length : Int) := of_decide_eq_true (by first | (with_reducible assumption) | assumption)
                 obtain ⟨ad453, e453, hx453_0⟩ := Kd.at_int HR2.out x57_3 p453 q453
                 obtain rfl : ad448 = ad453 := (by injection e453)
                 replace hx453_0 := (HB.out.cell (World.block_lt_of_cell? w _ hx453_0)).trans hx453_0
                 replace p453 := eq_true p453
                 replace q453 := eq_true q453
                 obtain ⟨Ao31, co31, eo31⟩ := Kd.R_slice HO_10.out
                 subst eo31
                 have p454 : 0 ≤ (x57_3 : Int) := of_decide_eq_true (by first | (with_reducible assumption) | assumption)
                 have q454 : x57_3 < (t449.length : Int) := of_decide_eq_true (by first | (with_reducible assumption) | assumption)
                 obtain ⟨ad454, e454, hx454_0⟩ := Kd.at_int (Kd.R_reads' HO_10.out).2.2 x57_3 p454 q454
                 cases e454
                 replace p454 := eq_true p454
                 replace q454 := eq_true q454
                 have p455 : 0 ≤ (x57_3 : Int) := of_decide_eq_true (by first | (with_reducible assumption) | assumption)
                 have q455 : x57_3 < (t449.length : Int) := of_decide_eq_true (by first | (with_reducible assumption) | assumption)
                 obtain ⟨ad455, e455, hx455_0⟩ := Kd.at_int (Kd.R_reads' HO_10.out).2.2 x57_3 p455 q455
                 obtain rfl : ad454 = ad455 := (by injection e455)
                 replace p455 := eq_true p455
                 replace q455 := eq_true q455
                 have p456 : 0 ≤ (x57_3 : Int) := of_decide_eq_true (by first | (with_reducible assumption) | assumption)
                 have q456 : x57_3 < (l2.length : Int) := of_decide_eq_true (by first | (with_reducible assumption) | assumption)
                 obtain ⟨ad456, e456, hx456_0⟩ := Kd.at_int HR2.out x57_3 p456 q456
                 obtain rfl : ad448 = ad456 := (by injection e456)
                 replace hx456_0 := (HB.out.cell (World.block_lt_of_cell? w _ hx456_0)).trans hx456_0
                 replace p456 := eq_true p456
                 replace q456 := eq_true q456
                 go_wp2
                 repeat (go_quiet (fail); try go_wp2)
                 go_ret
                 exact ⟨by first | rfl | (simp [errW_none, errW_some] <;> rfl) | (simp [*, errW_none, errW_some] <;> rfl), by repeat (first | (with_reducible first | exact HB.out | apply below_alloc | apply pw_below_drewN | apply below_drew1) | exact HB.out)⟩
                ·replace c30 := Bool.eq_false_iff.mpr c30
                 subst c30
                 have H1 : (some false) = some r := by rw [if_neg (show ¬ (false = true) by decide)] at H; exact H
                 clear H
                 have H := H1
                 clear H1
                 obtain rfl := Option.some.inj H
                 have p453 : 0 ≤ (x57_3 : Int) := of_decide_eq_true (by first | (with_reducible assumption) | assumption)
                 have q453 : x57_3 < (l2.length : Int) := of_decide_eq_true (by first | (with_reducible assumption) | assumption)
                 obtain ⟨ad453, e453, hx453_0⟩ := Kd.at_int HR2.out x57_3 p453 q453
                 obtain rfl : ad448 = ad453 := (by injection e453)
                 replace hx453_0 := (HB.out.cell (World.block_lt_of_cell? w _ hx453_0)).trans hx453_0
                 replace p453 := eq_true p453
                 replace q453 := eq_true q453
                 obtain ⟨Ao32, co32, eo32⟩ := Kd.R_slice HO_10.out
                 subst eo32
                 have p454 : 0 ≤ (x57_3 : Int) := of_decide_eq_true (by first | (with_reducible assumption) | assumption)
                 have q454 : x57_3 < (t449.length : Int) := of_decide_eq_true (by first | (with_reducible assumption) | assumption)
                 obtain ⟨ad454, e454, hx454_0⟩ := Kd.at_int (Kd.R_reads' HO_10.out).2.2 x57_3 p454 q454
                 cases e454
                 replace p454 := eq_true p454
                 replace q454 := eq_true q454
                 go_wp2
                 repeat (go_quiet (fail); try go_wp2)
                 go_ret
                 exact ⟨by first | rfl | (simp [errW_none, errW_some] <;> rfl) | (simp [*, errW_none, errW_some] <;> rfl), by repeat (first | (with_reducible first | exact HB.out | apply below_alloc | apply pw_below_drewN | apply below_drew1) | exact HB.out)⟩
              ·rw [if_neg c27] at H
               exact absurd H (by simp)
             ·rw [if_neg c26] at H
              exact absurd H (by simp)
            ·rw [if_neg c25] at H
             exact absurd H (by simp)
           ·rw [if_neg c24] at H
            have c24b0 : decide (x57_3 < (l2.length : Int)) = false := decide_eq_false c24
            clear c24
            obtain rfl := Option.some.inj H
            go_wp2
            repeat (go_quiet (fail); try go_wp2)
            go_ret
            exact ⟨by first | rfl | (simp [errW_none, errW_some] <;> rfl) | (simp [*, errW_none, errW_some] <;> rfl), by repeat (first | (with_reducible first | exact HB.out | apply below_alloc | apply pw_below_drewN | apply below_drew1) | exact HB.out)⟩
     ·rw [if_neg c17] at H
      exact absurd H (by simp)
    ·rw [if_neg c16] at H
     exact absurd H (by simp)
end Go.Proofs.Ytmojlpafpeeelaa.P
end
section
namespace Go.Proofs.Ytmojlpafpeeelaa.P
open Go.RowKit Go.Proofs.YtmojlpafpeeelaaW.PrintWords Go.Proofs.YtmojlpafpeeelaaW.PrintLast Go.Proofs.YtmojlpafpeeelaaW.PrintMore
attribute [local go_sem] max2_int min2_int max_two min_two max_three min_three max_four min_four
set_option linter.unusedVariables false
set_option linter.unusedSimpArgs false
mutual
def cohousinglaw28_FlowMatchesReference.j0 : Nat → List (S44) → List (S39) → List Int → Int → Int → Bool → Bool → Option (Bool)
 | 0, _, _, _, _, _, _, _ => none
 | k + 1, x0, x1, x2, x3, x4, x11, x28 => if x28 = true then (some x11) else ((flow_Bounds.f x0 x1).bind fun bt312 => ((cohousingref28_Bounds.f k x0 x1).bind fun bt316 => (if x11 = true then ((flow_Valid.f x0).bind fun t320 => ((cohousingref28_Valid.f k x0).bind fun t321 => (if (t320 == t321) = true then ((cohousingref28_Same.f k bt312.1 bt316.1).bind fun t322 => (if t322 = true then (cohousinglaw28_FlowMatchesReference.j1 k x0 x1 x2 x3 x4 (bt312.2 == bt316.2)) else (cohousinglaw28_FlowMatchesReference.j1 k x0 x1 x2 x3 x4 false))) else (cohousinglaw28_FlowMatchesReference.j1 k x0 x1 x2 x3 x4 false)))) else (cohousinglaw28_FlowMatchesReference.j1 k x0 x1 x2 x3 x4 false))))
def cohousinglaw28_FlowMatchesReference.j1 : Nat → List (S44) → List (S39) → List Int → Int → Int → Bool → Option (Bool)
 | 0, _, _, _, _, _, _ => none
 | k + 1, x0, x1, x2, x3, x4, x11 => (flow_Consistent.f x0 x1 x2).bind fun bt323 => ((cohousingref28_Consistent.f k x0 x1 x2).bind fun bt325 => (if x11 = true then (if (bt323.1 == bt325.1) = true then ((flow_State.f x0 x1 x3 x4).bind fun bt327 => ((cohousingref28_State.f k x0 x1 x3 x4).bind fun bt331 => (if bt323.2 = bt325.2 then ((cohousingref02_Same.f k bt327.1 bt331.1).bind fun t335 => (if t335 = true then (some (bt327.2 == bt331.2)) else (some false))) else (some false)))) else ((flow_State.f x0 x1 x3 x4).bind fun bt336 => ((cohousingref28_State.f k x0 x1 x3 x4).bind fun bt340 => (some false)))) else ((flow_State.f x0 x1 x3 x4).bind fun bt344 => ((cohousingref28_State.f k x0 x1 x3 x4).bind fun bt348 => (some false)))))
end
end Go.Proofs.Ytmojlpafpeeelaa.P
end
section
namespace Go.Proofs.Ytmojlpafpeeelaa.P
open Go.RowKit Go.Proofs.YtmojlpafpeeelaaW.PrintWords Go.Proofs.YtmojlpafpeeelaaW.PrintLast Go.Proofs.YtmojlpafpeeelaaW.PrintMore Go.Proofs.YtmojlpafpeeelaaH Go.Proofs.FlowTree
open Classical
theorem Ev.of_mono {α : Type} {f : Nat → Option α} {r : α} (k0 : Nat) (h0 : f k0 = some r) (h : ∀ k, LeO (f k) (f (k + 1))) : Ev f r := by
 refine ⟨k0, fun k hk => ?_⟩
 obtain ⟨d, rfl⟩ : ∃ d, k = k0 + d := ⟨k - k0, by omega⟩
 induction d with
 | zero => exact h0
 | succ d ih => exact h _ _ (ih (by omega))
theorem head_ev : Ev (fun k => cohousinglaw28_head.f k) true := Ev.of_mono 40 (by kernel_rfl) (fun k => cohousinglaw28_head.mono k)
theorem S_f (l : List PI) (r : List RG) (x : List Int) (hl : l.length ≤ 5864062014805) (hr : r.length ≤ 140737488355328) (hx : x.length ≤ 17592186044416) (i v : Int) : flow_State.f l r i v = some (stateR l r i v) := by unfold flow_State.f; rw [if_pos ⟨hl, hr⟩]
theorem C_f (l : List PI) (r : List RG) (x : List Int) (hl : l.length ≤ 5864062014805) (hr : r.length ≤ 140737488355328) (hx : x.length ≤ 17592186044416) : flow_Consistent.f l r x = some (consR l r x) := by unfold flow_Consistent.f; rw [if_pos ⟨hl, hr, hx⟩]
section
variable (l : List PI) (r : List RG) (x : List Int) (hl : l.length ≤ 5864062014805) (hr : r.length ≤ 140737488355328) (hx : x.length ≤ 17592186044416)
include hl hr hx
end
end Go.Proofs.Ytmojlpafpeeelaa.P
end
section
namespace Go.Proofs.Ytmojlpafpeeelaa.P
open Go.RowKit Go.Proofs.YtmojlpafpeeelaaW.PrintWords Go.Proofs.YtmojlpafpeeelaaW.PrintLast Go.Proofs.YtmojlpafpeeelaaW.PrintMore
attribute [local go_sem] max2_int min2_int max_two min_two max_three min_three max_four min_four
set_option linter.unusedVariables false
set_option linter.unusedSimpArgs false
mutual
def cohousinglaw28_FlowWithin.j0 : Nat → List (S44) → List (S39) → List Int → Bool → Bool → Option (Bool)
 | 0, _, _, _, _, _ => none
 | k + 1, x0, x1, x2, x7, x21 => if x21 = true then (some x7) else ((flow_Bounds.f x0 x1).bind fun bt386 => (if bt386.2 = 0 then (if (bt386.1.length : Int) = (x2.length : Int) then (cohousinglaw28_FlowWithin.j1 k x1 x2 x7 bt386.1 ((x1.length : Int) != (x2.length : Int))) else (cohousinglaw28_FlowWithin.j1 k x1 x2 x7 bt386.1 true)) else (cohousinglaw28_FlowWithin.j1 k x1 x2 x7 bt386.1 true)))
def cohousinglaw28_FlowWithin.j1 : Nat → List (S39) → List Int → Bool → List (S39) → Bool → Option (Bool)
 | 0, _, _, _, _, _ => none
 | k + 1, x1, x2, x7, x8, x44 => if x44 = true then (some false) else (cohousinglaw28_FlowWithin.l0 k x1 x2 x7 x8 (x2.length : Int) 0)
def cohousinglaw28_FlowWithin.l0 : Nat → List (S39) → List Int → Bool → List (S39) → Int → Int → Option (Bool)
 | 0, _, _, _, _, _, _ => none
 | k + 1, x1, x2, x7, x8, x46, x47 => if x47 < x46 then (if x7 = true then (if 0 ≤ x47 then (if x47 < (x8.length : Int) then (if x47 < (x2.length : Int) then (if ((rd_T39 x8 x47).f0) ≤ (rd x2 x47) then (if (rd x2 x47) ≤ ((rd_T39 x8 x47).f1) then (if x47 < (x1.length : Int) then (if ((rd_T39 x1 x47).f0) ≤ ((rd_T39 x8 x47).f0) then (cohousinglaw28_FlowWithin.l0 k x1 x2 (decide (((rd_T39 x8 x47).f1) ≤ ((rd_T39 x1 x47).f1))) x8 x46 (wrap64 (x47 + 1))) else (cohousinglaw28_FlowWithin.l0 k x1 x2 false x8 x46 (wrap64 (x47 + 1)))) else (none)) else (cohousinglaw28_FlowWithin.l0 k x1 x2 false x8 x46 (wrap64 (x47 + 1)))) else (cohousinglaw28_FlowWithin.l0 k x1 x2 false x8 x46 (wrap64 (x47 + 1)))) else (none)) else (none)) else (none)) else (cohousinglaw28_FlowWithin.l0 k x1 x2 false x8 x46 (wrap64 (x47 + 1)))) else (some x7)
end
end Go.Proofs.Ytmojlpafpeeelaa.P
end
section
namespace Go.Proofs.Ytmojlpafpeeelaa.P
open Go.RowKit Go.Proofs.YtmojlpafpeeelaaW.PrintWords Go.Proofs.YtmojlpafpeeelaaW.PrintLast Go.Proofs.YtmojlpafpeeelaaW.PrintMore
attribute [local go_sem] max2_int min2_int max_two min_two max_three min_three max_four min_four
set_option linter.unusedVariables false
set_option linter.unusedSimpArgs false
mutual
def cohousinglaw28_FlowExact.j0 : Nat → List (S44) → List (S39) → Int → Int → Bool → Bool → Option (Bool)
 | 0, _, _, _, _, _, _ => none
 | k + 1, x0, x1, x2, x3, x9, x32 => if x32 = true then (some x9) else ((flow_Bounds.f x0 x1).bind fun bt358 => (if bt358.2 = 0 then (if (bt358.1.length : Int) = (x0.length : Int) then (if 0 ≤ x2 then (if x2 < (bt358.1.length : Int) then (cohousinglaw28_FlowExact.j1 k x0 x1 x2 x3 x9 bt358.1 (decide (((rd_T39 bt358.1 x2).f0) > ((rd_T39 bt358.1 x2).f1)))) else (none)) else (none)) else (cohousinglaw28_FlowExact.j1 k x0 x1 x2 x3 x9 bt358.1 true)) else ((flow_State.f x0 x1 x2 x3).bind fun bt362 => (if x9 = true then (if bt358.2 = 30 then (if bt362.2 = 30 then (some ((bt362.1.length : Int) == 0)) else (some false)) else (some false)) else (some false)))))
def cohousinglaw28_FlowExact.j1 : Nat → List (S44) → List (S39) → Int → Int → Bool → List (S39) → Bool → Option (Bool)
 | 0, _, _, _, _, _, _, _ => none
 | k + 1, x0, x1, x2, x3, x9, x10, x81 => if x81 = true then (some false) else (if 0 ≤ x2 then (if x2 < (x10.length : Int) then ((some (([x3, (rd_T39 x10 x2).f0, (rd_T39 x10 x2).f1, wrap64 (((rd_T39 x10 x2).f0) - 1), wrap64 (((rd_T39 x10 x2).f1) + 1)] : List Int) : List Int)).bind fun y372 => (cohousinglaw28_FlowExact.l0 k x0 x1 x2 x9 x10 y372 (y372.length : Int) 0)) else (none)) else (none))
def cohousinglaw28_FlowExact.l0 : Nat → List (S44) → List (S39) → Int → Bool → List (S39) → List Int → Int → Int → Option (Bool)
 | 0, _, _, _, _, _, _, _, _ => none
 | k + 1, x0, x1, x2, x9, x10, x105, x106, x107 => if x107 < x106 then (if 0 ≤ x107 then (if x107 < (x105.length : Int) then ((flow_State.f x0 x1 x2 (rd x105 x107)).bind fun bt376 => (if 0 ≤ x2 then (if x2 < (x10.length : Int) then (if (rd x105 x107) < ((rd_T39 x10 x2).f0) then (cohousinglaw28_FlowExact.j3 k x0 x1 x2 x9 x10 (rd x105 x107) bt376.1 bt376.2 x105 x106 x107 true) else (cohousinglaw28_FlowExact.j3 k x0 x1 x2 x9 x10 (rd x105 x107) bt376.1 bt376.2 x105 x106 x107 (decide ((rd x105 x107) > ((rd_T39 x10 x2).f1))))) else (none)) else (none))) else (none)) else (none)) else (some x9)
def cohousinglaw28_FlowExact.j3 : Nat → List (S44) → List (S39) → Int → Bool → List (S39) → Int → List Int → Int → List Int → Int → Int → Bool → Option (Bool)
 | 0, _, _, _, _, _, _, _, _, _, _, _, _ => none
 | k + 1, x0, x1, x2, x9, x10, x15, x16, x17, x105, x106, x107, x134 => if x134 = true then (if x9 = true then (if x17 = 30 then (cohousinglaw28_FlowExact.l0 k x0 x1 x2 ((x16.length : Int) == 0) x10 x105 x106 (wrap64 (x107 + 1))) else (cohousinglaw28_FlowExact.l0 k x0 x1 x2 false x10 x105 x106 (wrap64 (x107 + 1)))) else (cohousinglaw28_FlowExact.l0 k x0 x1 x2 false x10 x105 x106 (wrap64 (x107 + 1)))) else (if x17 = 0 then (if (x16.length : Int) = (x0.length : Int) then (if 0 ≤ x2 then (if x2 < (x16.length : Int) then (if (rd x16 x2) = x15 then ((cohousinglaw28_consistent.f x0 x1 x16).bind fun t383 => (if t383 = true then (cohousinglaw28_FlowExact.l0 k x0 x1 x2 x9 x10 x105 x106 (wrap64 (x107 + 1))) else (some false))) else (some false)) else (none)) else (none)) else (some false)) else (some false))
end
end Go.Proofs.Ytmojlpafpeeelaa.P
end
section
namespace Go.Proofs.Ytmojlpafpeeelaa.P
open Go.RowKit Go.Proofs.YtmojlpafpeeelaaW.PrintWords Go.Proofs.YtmojlpafpeeelaaW.PrintLast Go.Proofs.YtmojlpafpeeelaaW.PrintMore Go.Proofs.YtmojlpafpeeelaaH Go.Proofs.FlowTree
open Classical
def Cons (l : List PI) (r : List RG) (x : List Int) : Prop := Good l r ∧ x.length = l.length ∧ Sol (netT l) (lo9 r) (hi9 r) (fx x)
section
variable (l : List PI) (r : List RG) (x : List Int) (hl : l.length ≤ 5864062014805) (hr : r.length ≤ 140737488355328) (hx : x.length ≤ 17592186044416)
theorem consistent_f (l : List PI) (r : List RG) (x : List Int) (hl : l.length ≤ 5864062014805) (hr : r.length ≤ 140737488355328) (hx : x.length ≤ 17592186044416) : cohousinglaw28_consistent.f l r x = some (decide (Cons l r x)) := by
 unfold cohousinglaw28_consistent.f
 rw [C_f l r x hl hr hx, Option.bind_some, consR_is]
 by_cases hg : Good l r ∧ x.length = l.length
 ·rw [if_pos hg]
  by_cases hs : Sol (netT l) (lo9 r) (hi9 r) (fx x)
  ·rw [decide_eq_true hs, decide_eq_true (show Cons l r x from ⟨hg.1, hg.2, hs⟩)]
   rfl
  ·rw [decide_eq_false hs, decide_eq_false (show ¬ Cons l r x from fun h => hs h.2.2)]
   rfl
 ·rw [if_neg hg, decide_eq_false (show ¬ Cons l r x from fun h => hg ⟨h.1, h.2.1⟩)]
  rfl
theorem first_l0 {l : List PI} {x y : List Int} (hn : l.length ≤ 200) (hxl : x.length = l.length) (hyl : y.length = l.length) (h : (∀ j, j < l.length → fx x j = fx y j) ∨ ∃ j, j < l.length ∧ fx y j < fx x j ∧ ∀ k, k < j → fx x k = fx y k) : ∀ (n i : Nat), i + n = l.length → (∀ j, j < i → fx x j = fx y j) →
  Ev (fun k => cohousinglaw28_FlowFirst.l0 k x true y (x.length : Int) (i : Int)) true := by
 intro n
 induction n with
 | zero =>
  intro i hi _
  have h1 : ¬ ((i : Int) < (x.length : Int)) := by rw [hxl]; omega
  refine Ev.step ?_
  simp only [cohousinglaw28_FlowFirst.l0, h1, if_false]
  exact Ev.pure _
 | succ n ih =>
  intro i hi hsame
  have h1 : ((i : Int) < (x.length : Int)) := by rw [hxl]; omega
  have h2 : (0 : Int) ≤ (i : Int) := by omega
  have h3 : ((i : Int) < (y.length : Int)) := by rw [hyl]; omega
  have e1 : rd x (i : Int) = fx x i := rfl
  have e2 : rd y (i : Int) = fx y i := rfl
  refine Ev.step ?_
  by_cases hc : fx x i = fx y i
  ·simp only [cohousinglaw28_FlowFirst.l0, h1, h2, h3, e1, e2, hc, if_true, wrap_nat (show i ≤ 140737488355328 by omega)]
   refine ih (i + 1) (by omega) (fun j hj => ?_)
   by_cases hj' : j < i
   ·exact hsame j hj'
   ·rw [show j = i by omega]; exact hc
  ·have hlt : fx y i < fx x i := by
    rcases h with h | ⟨j, hj, h4, h5⟩
    ·exact absurd (h i (by omega)) hc
    ·rcases Nat.lt_trichotomy i j with h6 | h6 | h6
     ·exact absurd (h5 i h6) hc
     ·rw [h6]; exact h4
     ·have := hsame j h6; omega
   have hd : decide (fx y i < fx x i) = true := decide_eq_true hlt
   simp only [cohousinglaw28_FlowFirst.l0, h1, h2, h3, e1, e2, hc, if_true, if_false, hd]
   exact Ev.pure _
theorem first_ (l : List PI) (r : List RG) (x : List Int) (hl : l.length ≤ 5864062014805) (hr : r.length ≤ 140737488355328) (hx : x.length ≤ 17592186044416) (i : Int) : Ev (fun k => cohousinglaw28_FlowFirst.f k l r x i) true := by
 have hout : ∀ c : Bool, c = true → Ev (fun k => cohousinglaw28_FlowFirst.j0 k l r x i true c) true := by
  intro c hc
  refine Ev.step ?_
  simp only [cohousinglaw28_FlowFirst.j0, hc, if_true]
  exact Ev.pure _
 unfold cohousinglaw28_FlowFirst.f
 refine Ev.bnd head_ev ?_
 by_cases h40 : (l.length : Int) > 40
 ·simp only [h40, if_true]
  exact hout _ rfl
 simp only [h40, if_false, consistent_f l r x hl hr hx, Option.bind_some]
 by_cases hc : Cons l r x
 case neg =>
  rw [decide_eq_false hc]
  simp only [Bool.false_eq_true, if_false]
  exact hout _ rfl
 rw [decide_eq_true hc]
 simp only [if_true]
 by_cases hi0 : i < 0
 ·simp only [hi0, if_true]
  exact hout _ rfl
 simp only [hi0, if_false]
 by_cases hi1 : (x.length : Int) ≤ i
 ·rw [show decide (i ≥ (x.length : Int)) = true from decide_eq_true hi1]
  exact hout _ rfl
 rw [show decide (i ≥ (x.length : Int)) = false from decide_eq_false hi1]
 have g2 : (0 : Int) ≤ i := by omega
 have g3 : i < (x.length : Int) := by omega
 have hil : i < (l.length : Int) := by rw [← hc.2.1]; exact g3
 have hxi : fx x i.toNat = rd x i := by show rd x ((i.toNat : Nat) : Int) = _; rw [Int.toNat_of_nonneg g2]
 have hst := (stateR_is l r i (rd x i)).1
 generalize hq : stateR l r i (rd x i) = q at hst
 cases hst with
 | arg h => exact absurd ⟨hc.1, g2, hil⟩ h
 | flow _ _ _ h => exact absurd ⟨fx x, hc.2.2, hxi⟩ h
 | ok y _ _ _ hyl hys hyi hlex =>
  have e2 : ((y.length : Int) != (x.length : Int)) = false := by rw [hyl, hc.2.1]; simp
  refine Ev.step ?_
  simp only [cohousinglaw28_FlowFirst.j0, Bool.false_eq_true, if_false, g2, g3, if_true, S_f l r x hl hr hx, hq, Option.bind_some, e2]
  refine Ev.step ?_
  simp only [cohousinglaw28_FlowFirst.j1, Bool.false_eq_true, if_false]
  exact first_l0 hc.1.n hc.2.1 hyl (hlex (fx x) hc.2.2 hxi) l.length 0 (by omega) (fun j hj => absurd hj (Nat.not_lt_zero _))
end
end Go.Proofs.Ytmojlpafpeeelaa.P
end
