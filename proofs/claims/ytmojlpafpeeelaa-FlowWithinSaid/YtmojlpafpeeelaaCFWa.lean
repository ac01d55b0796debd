/- Part 1 of the proof of FlowWithin: what it alone needs. -/
import Derived.Test.YtmojlpafpeeelaaCBd
set_option linter.unusedVariables false
set_option linter.unusedSimpArgs false
section
namespace Go.Proofs.Ytmojlpafpeeelaa.P
open Go.RowKit Go.Proofs.YtmojlpafpeeelaaW.PrintWords Go.Proofs.YtmojlpafpeeelaaW.PrintLast Go.Proofs.YtmojlpafpeeelaaW.PrintMore
attribute [local go_sem] max2_int min2_int max_two min_two max_three min_three max_four min_four
set_option linter.unusedVariables false
set_option linter.unusedSimpArgs false
mutual
def cohousinglaw28_FlowWithin.j0 : Nat → List (S44) → List (S39) → List Int → Bool → Bool → Option (Bool)
 | 0, _, _, _, _, _ => none
 | k + 1, x0, x1, x2, x7, x21 => if x21 = true then (some x7) else ((flow_Bounds.f x0 x1).bind fun bt386 => (if bt386.2 = 0 then (if (bt386.1.length : Int) = (x2.length : Int) then (cohousinglaw28_FlowWithin.j1 k x1 x2 x7 bt386.1 ((x1.length : Int) != (x2.length : Int))) else (cohousinglaw28_FlowWithin.j1 k x1 x2 x7 bt386.1 true)) else (cohousinglaw28_FlowWithin.j1 k x1 x2 x7 bt386.1 true)))
def cohousinglaw28_FlowWithin.j1 : Nat → List (S39) → List Int → Bool → List (S39) → Bool → Option (Bool)
 | 0, _, _, _, _, _ => none
 | k + 1, x1, x2, x7, x8, x44 => if x44 = true then (some false) else (cohousinglaw28_FlowWithin.l0 k x1 x2 x7 x8 (x2.length : Int) 0)
def cohousinglaw28_FlowWithin.l0 : Nat → List (S39) → List Int → Bool → List (S39) → Int → Int → Option (Bool)
 | 0, _, _, _, _, _, _ => none
 | k + 1, x1, x2, x7, x8, x46, x47 => if x47 < x46 then (if x7 = true then (if 0 ≤ x47 then (if x47 < (x8.length : Int) then (if x47 < (x2.length : Int) then (if ((rd_T39 x8 x47).f0) ≤ (rd x2 x47) then (if (rd x2 x47) ≤ ((rd_T39 x8 x47).f1) then (if x47 < (x1.length : Int) then (if ((rd_T39 x1 x47).f0) ≤ ((rd_T39 x8 x47).f0) then (cohousinglaw28_FlowWithin.l0 k x1 x2 (decide (((rd_T39 x8 x47).f1) ≤ ((rd_T39 x1 x47).f1))) x8 x46 (wrap64 (x47 + 1))) else (cohousinglaw28_FlowWithin.l0 k x1 x2 false x8 x46 (wrap64 (x47 + 1)))) else (none)) else (cohousinglaw28_FlowWithin.l0 k x1 x2 false x8 x46 (wrap64 (x47 + 1)))) else (cohousinglaw28_FlowWithin.l0 k x1 x2 false x8 x46 (wrap64 (x47 + 1)))) else (none)) else (none)) else (none)) else (cohousinglaw28_FlowWithin.l0 k x1 x2 false x8 x46 (wrap64 (x47 + 1)))) else (some x7)
end
def cohousinglaw28_FlowWithin.f (k : Nat) (l0 : List (S44)) (l1 : List (S39)) (l2 : List Int) : Option (Bool) := (cohousinglaw28_head.f k).bind fun t384 => (if (l0.length : Int) > 40 then (cohousinglaw28_FlowWithin.j0 k l0 l1 l2 t384 true) else ((cohousinglaw28_consistent.f l0 l1 l2).bind fun t385 => (cohousinglaw28_FlowWithin.j0 k l0 l1 l2 t384 (!t385))))
set_option maxHeartbeats 8000000 in
set_option maxRecDepth 100000 in
theorem cohousinglaw28_FlowWithin.calls (k : Nat) (A0 : Option Addr) (c0 : Nat) (l0 : List (S44)) (A1 : Option Addr) (c1 : Nat) (l1 : List (S39)) (A2 : Option Addr) (c2 : Nat) (l2 : List Int) (r : Bool) (w : World) (hr0 : Kd.C k44 w A0 l0.length l0) (hc0 : l0.length ≤ c0) (hr1 : Kd.C k39 w A1 l1.length l1) (hc1 : l1.length ≤ c1) (hr2 : Kd.C (Kd.int .i64) w A2 l2.length l2) (hc2 : l2.length ≤ c2) (h : cohousinglaw28_FlowWithin.f k l0 l1 l2 = some r) :
  Calls Try.prog 5 #[.slice A0 l0.length c0, .slice A1 l1.length c1, .slice A2 l2.length c2] w fun e w' => e = .returned (.bool r) ∧ Below w.heap.size w w' := by
 have HR0 := Aside0.mk hr0
 have HC0 := Aside0.mk hc0
 clear hr0 hc0
 have HR1 := Aside0.mk hr1
 have HC1 := Aside0.mk hc1
 clear hr1 hc1
 have HR2 := Aside0.mk hr2
 have HC2 := Aside0.mk hc2
 clear hr2 hc2
 have HB := Aside0.mk (Below.refl w.heap.size w)
 have H : ((cohousinglaw28_head.f k).bind fun t384 => (if (l0.length : Int) > 40 then (cohousinglaw28_FlowWithin.j0 k l0 l1 l2 t384 true) else ((cohousinglaw28_consistent.f l0 l1 l2).bind fun t385 => (cohousinglaw28_FlowWithin.j0 k l0 l1 l2 t384 (!t385))))) = some r := h
 clear h
 replace H := Option.bind_eq_some_iff.mp H
 obtain ⟨t384, A40, H⟩ := H
 replace H : (if (l0.length : Int) > 40 then (cohousinglaw28_FlowWithin.j0 k l0 l1 l2 t384 true) else ((cohousinglaw28_consistent.f l0 l1 l2).bind fun t385 => (cohousinglaw28_FlowWithin.j0 k l0 l1 l2 t384 (!t385)))) = some r := H
 have A4 := Aside0.mk A40
 clear A40
 have HC5 := Aside0.mk H
 clear H
 go_enter Try.func5, Try.ntmps5
 go_upto_region 2 with (first | (go_at_call 10; (with_reducible refine (cohousinglaw28_head.calls k  t384 _ A4.out).mono ?_); rintro e w6 ⟨rfl, hb⟩; have n0_ := Aside0.mk (below_step (by repeat (first | (with_reducible first | exact HB.out | apply below_alloc | apply pw_below_drewN | apply below_drew1) | exact HB.out)) hb); clear HB; have HB := n0_; clear n0_; (try clear hb); (try clear hb2); (try clear hk); (try clear hi)))
 repeat (go_quiet (first | (go_at_call 10; (with_reducible refine (cohousinglaw28_head.calls k  t384 _ A4.out).mono ?_); rintro e w6 ⟨rfl, hb⟩; have n0_ := Aside0.mk (below_step (by repeat (first | (with_reducible first | exact HB.out | apply below_alloc | apply pw_below_drewN | apply below_drew1) | exact HB.out)) hb); clear HB; have HB := n0_; clear n0_; (try clear hb); (try clear hb2); (try clear hk); (try clear hi))); go_upto_region 2 with (first | (go_at_call 10; (with_reducible refine (cohousinglaw28_head.calls k  t384 _ A4.out).mono ?_); rintro e w6 ⟨rfl, hb⟩; have n0_ := Aside0.mk (below_step (by repeat (first | (with_reducible first | exact HB.out | apply below_alloc | apply pw_below_drewN | apply below_drew1) | exact HB.out)) hb); clear HB; have HB := n0_; clear n0_; (try clear hb); (try clear hb2); (try clear hk); (try clear hi))))
 (try simp only [Act.put, sI_, s0_, sS_])
 go_cut [21] (fun v21 wc => ∃ (kq : Nat) (x21_4 : Bool), v21 = .bool x21_4 ∧ Aside0 (cohousinglaw28_FlowWithin.j0 kq l0 l1 l2 t384 x21_4 = some r) ∧ Aside0 (kq ≤ k) ∧ Aside0 (Below w.heap.size w wc))
 case first =>
  have H := HC5.out
  clear HC5
  by_cases c7 : (l0.length : Int) > 40
  ·rw [if_pos c7] at H
   have c7b0 : decide (40 < (l0.length : Int)) = true := decide_eq_true c7
   have c7b1 : decide (40 < l0.length) = true := decide_eq_true (by omega)
   clear c7
   (first | rw [c7b0] | (simp only [i64_w, i32_w]; rw [c7b0]) | skip)
   have H' := Aside0.mk H
   clear H
   go_wp2
   repeat (go_quiet (fail); try go_wp2)
   go_meet
   case rel => exact ⟨_, (true), (by first | rfl | (simp; done) | (simp [*]; done)), H', ⟨by first | omega | exact Nat.le_refl _⟩, ⟨by repeat (first | (with_reducible first | exact HB.out | apply below_alloc | apply pw_below_drewN | apply below_drew1) | exact HB.out)⟩⟩
  ·rw [if_neg c7] at H
   have c7b0 : decide (40 < (l0.length : Int)) = false := decide_eq_false c7
   have c7b1 : decide (40 < l0.length) = false := decide_eq_false (by omega)
   clear c7
   (first | rw [c7b0] | (simp only [i64_w, i32_w]; rw [c7b0]) | skip)
   replace H := Option.bind_eq_some_iff.mp H
   obtain ⟨t385, A80, H⟩ := H
   replace H : (cohousinglaw28_FlowWithin.j0 k l0 l1 l2 t384 (!t385)) = some r := H
   have A8 := Aside0.mk A80
   clear A80
   have H' := Aside0.mk H
   clear H
   go_wp2_with (first | (go_at_call 22; (with_reducible refine (cohousinglaw28_consistent.calls _ _ l0 _ _ l1 _ _ l2 t385 _ ?side1 ?side2 ?side3 ?side4 ?side5 ?side6 A8.out).mono ?_); (case side1 => repeat (first | exact (Kd.C_below HR0.out HB.out) | (with_reducible refine Kd.C_alloc ?_ _) | (with_reducible refine Kd.C_drewN ?_ _) | (with_reducible refine Kd.C_drew ?_))); (case side2 => exact HC0.out); (case side3 => repeat (first | exact (Kd.C_below HR1.out HB.out) | (with_reducible refine Kd.C_alloc ?_ _) | (with_reducible refine Kd.C_drewN ?_ _) | (with_reducible refine Kd.C_drew ?_))); (case side4 => exact HC1.out); (case side5 => repeat (first | exact (Kd.C_below HR2.out HB.out) | (with_reducible refine Kd.C_alloc ?_ _) | (with_reducible refine Kd.C_drewN ?_ _) | (with_reducible refine Kd.C_drew ?_))); (case side6 => exact HC2.out); rintro e w9 ⟨rfl, hb⟩; have n0_ := Aside0.mk (below_step (by repeat (first | (with_reducible first | exact HB.out | apply below_alloc | apply pw_below_drewN | apply below_drew1) | exact HB.out)) hb); clear HB; have HB := n0_; clear n0_; (try clear hb); (try clear hb2); (try clear hk); (try clear hi)))
   repeat (go_quiet (first | (go_at_call 22; (with_reducible refine (cohousinglaw28_consistent.calls _ _ l0 _ _ l1 _ _ l2 t385 _ ?side1 ?side2 ?side3 ?side4 ?side5 ?side6 A8.out).mono ?_); (case side1 => repeat (first | exact (Kd.C_below HR0.out HB.out) | (with_reducible refine Kd.C_alloc ?_ _) | (with_reducible refine Kd.C_drewN ?_ _) | (with_reducible refine Kd.C_drew ?_))); (case side2 => exact HC0.out); (case side3 => repeat (first | exact (Kd.C_below HR1.out HB.out) | (with_reducible refine Kd.C_alloc ?_ _) | (with_reducible refine Kd.C_drewN ?_ _) | (with_reducible refine Kd.C_drew ?_))); (case side4 => exact HC1.out); (case side5 => repeat (first | exact (Kd.C_below HR2.out HB.out) | (with_reducible refine Kd.C_alloc ?_ _) | (with_reducible refine Kd.C_drewN ?_ _) | (with_reducible refine Kd.C_drew ?_))); (case side6 => exact HC2.out); rintro e w9 ⟨rfl, hb⟩; have n0_ := Aside0.mk (below_step (by repeat (first | (with_reducible first | exact HB.out | apply below_alloc | apply pw_below_drewN | apply below_drew1) | exact HB.out)) hb); clear HB; have HB := n0_; clear n0_; (try clear hb); (try clear hb2); (try clear hk); (try clear hi))); try go_wp2_with (first | (go_at_call 22; (with_reducible refine (cohousinglaw28_consistent.calls _ _ l0 _ _ l1 _ _ l2 t385 _ ?side1 ?side2 ?side3 ?side4 ?side5 ?side6 A8.out).mono ?_); (case side1 => repeat (first | exact (Kd.C_below HR0.out HB.out) | (with_reducible refine Kd.C_alloc ?_ _) | (with_reducible refine Kd.C_drewN ?_ _) | (with_reducible refine Kd.C_drew ?_))); (case side2 => exact HC0.out); (case side3 => repeat (first | exact (Kd.C_below HR1.out HB.out) | (with_reducible refine Kd.C_alloc ?_ _) | (with_reducible refine Kd.C_drewN ?_ _) | (with_reducible refine Kd.C_drew ?_))); (case side4 => exact HC1.out); (case side5 => repeat (first | exact (Kd.C_below HR2.out HB.out) | (with_reducible refine Kd.C_alloc ?_ _) | (with_reducible refine Kd.C_drewN ?_ _) | (with_reducible refine Kd.C_drew ?_))); (case side6 => exact HC2.out); rintro e w9 ⟨rfl, hb⟩; have n0_ := Aside0.mk (below_step (by repeat (first | (with_reducible first | exact HB.out | apply below_alloc | apply pw_below_drewN | apply below_drew1) | exact HB.out)) hb); clear HB; have HB := n0_; clear n0_; (try clear hb); (try clear hb2); (try clear hk); (try clear hi))))
   go_meet
   case rel => exact ⟨_, (!t385), (by first | rfl | (simp; done) | (simp [*]; done)), H', ⟨by first | omega | exact Nat.le_refl _⟩, ⟨by repeat (first | (with_reducible first | exact HB.out | apply below_alloc | apply pw_below_drewN | apply below_drew1) | exact HB.out)⟩⟩
 case rest =>
  clear HC5
  try clear c1
  try clear c2
  try clear p2
  try clear c5
  try clear c7
  try clear c7b0
  try clear c7b1
  obtain ⟨kq, x21_4, rfl, HA, HJ4, HB⟩ := hcut
  cases kq with
  | zero => exact absurd HA.out (by simp [cohousinglaw28_FlowWithin.j0])
  | succ kj4 =>
   have H := HA.out
   clear HA
   simp only [cohousinglaw28_FlowWithin.j0] at H
   by_cases c10 : x21_4 = true
   ·subst c10
    have H1 : (some t384) = some r := by rw [if_pos rfl] at H; exact H
    clear H
    have H := H1
    clear H1
    obtain rfl := Option.some.inj H
    go_wp2
    repeat (go_quiet (fail); try go_wp2)
    go_ret
    exact ⟨by first | rfl | (simp [errW_none, errW_some] <;> rfl) | (simp [*, errW_none, errW_some] <;> rfl), by repeat (first | (with_reducible first | exact HB.out | apply below_alloc | apply pw_below_drewN | apply below_drew1) | exact HB.out)⟩
   ·replace c10 := Bool.eq_false_iff.mpr c10
    subst c10
    have H1 : ((flow_Bounds.f l0 l1).bind fun bt386 => (if bt386.2 = 0 then (if (bt386.1.length : Int) = (l2.length : Int) then (cohousinglaw28_FlowWithin.j1 kj4 l1 l2 t384 bt386.1 ((l1.length : Int) != (l2.length : Int))) else (cohousinglaw28_FlowWithin.j1 kj4 l1 l2 t384 bt386.1 true)) else (cohousinglaw28_FlowWithin.j1 kj4 l1 l2 t384 bt386.1 true))) = some r := by rw [if_neg (show ¬ (false = true) by decide)] at H; exact H
    clear H
    have H := H1
    clear H1
    replace H := Option.bind_eq_some_iff.mp H
    obtain ⟨⟨t386, t387⟩, A110, H⟩ := H
    replace H : (if t387 = 0 then (if (t386.length : Int) = (l2.length : Int) then (cohousinglaw28_FlowWithin.j1 kj4 l1 l2 t384 t386 ((l1.length : Int) != (l2.length : Int))) else (cohousinglaw28_FlowWithin.j1 kj4 l1 l2 t384 t386 true)) else (cohousinglaw28_FlowWithin.j1 kj4 l1 l2 t384 t386 true)) = some r := H
    have A11 := Aside0.mk A110
    clear A110
    have HC12 := Aside0.mk H
    clear H
    go_upto_region 5 with (first | (go_at_call 11; (with_reducible refine (flow_Bounds.calls _ _ l0 _ _ l1 t386 t387 _ ?side1 ?side2 ?side3 ?side4 A11.out).mono ?_); (case side1 => repeat (first | exact (Kd.C_below HR0.out HB.out) | (with_reducible refine Kd.C_alloc ?_ _) | (with_reducible refine Kd.C_drewN ?_ _) | (with_reducible refine Kd.C_drew ?_))); (case side2 => exact HC0.out); (case side3 => repeat (first | exact (Kd.C_below HR1.out HB.out) | (with_reducible refine Kd.C_alloc ?_ _) | (with_reducible refine Kd.C_drewN ?_ _) | (with_reducible refine Kd.C_drew ?_))); (case side4 => exact HC1.out); rintro e w13 ⟨v388, rfl, ho0, hb⟩; have n0_ := Aside0.mk (Kd.R_lower ho0 (below_size (by repeat (first | (with_reducible first | exact HB.out | apply below_alloc | apply pw_below_drewN | apply below_drew1) | exact HB.out)))); have n1_ := Aside0.mk (below_step (by repeat (first | (with_reducible first | exact HB.out | apply below_alloc | apply pw_below_drewN | apply below_drew1) | exact HB.out)) hb); clear HB; have HO389 := n0_; have HB := n1_; clear n0_ n1_; (try clear hb); (try clear hb2); (try clear hk); (try clear hi); (try clear ho0)))
    repeat (go_quiet (first | (go_at_call 11; (with_reducible refine (flow_Bounds.calls _ _ l0 _ _ l1 t386 t387 _ ?side1 ?side2 ?side3 ?side4 A11.out).mono ?_); (case side1 => repeat (first | exact (Kd.C_below HR0.out HB.out) | (with_reducible refine Kd.C_alloc ?_ _) | (with_reducible refine Kd.C_drewN ?_ _) | (with_reducible refine Kd.C_drew ?_))); (case side2 => exact HC0.out); (case side3 => repeat (first | exact (Kd.C_below HR1.out HB.out) | (with_reducible refine Kd.C_alloc ?_ _) | (with_reducible refine Kd.C_drewN ?_ _) | (with_reducible refine Kd.C_drew ?_))); (case side4 => exact HC1.out); rintro e w13 ⟨v388, rfl, ho0, hb⟩; have n0_ := Aside0.mk (Kd.R_lower ho0 (below_size (by repeat (first | (with_reducible first | exact HB.out | apply below_alloc | apply pw_below_drewN | apply below_drew1) | exact HB.out)))); have n1_ := Aside0.mk (below_step (by repeat (first | (with_reducible first | exact HB.out | apply below_alloc | apply pw_below_drewN | apply below_drew1) | exact HB.out)) hb); clear HB; have HO389 := n0_; have HB := n1_; clear n0_ n1_; (try clear hb); (try clear hb2); (try clear hk); (try clear hi); (try clear ho0))); go_upto_region 5 with (first | (go_at_call 11; (with_reducible refine (flow_Bounds.calls _ _ l0 _ _ l1 t386 t387 _ ?side1 ?side2 ?side3 ?side4 A11.out).mono ?_); (case side1 => repeat (first | exact (Kd.C_below HR0.out HB.out) | (with_reducible refine Kd.C_alloc ?_ _) | (with_reducible refine Kd.C_drewN ?_ _) | (with_reducible refine Kd.C_drew ?_))); (case side2 => exact HC0.out); (case side3 => repeat (first | exact (Kd.C_below HR1.out HB.out) | (with_reducible refine Kd.C_alloc ?_ _) | (with_reducible refine Kd.C_drewN ?_ _) | (with_reducible refine Kd.C_drew ?_))); (case side4 => exact HC1.out); rintro e w13 ⟨v388, rfl, ho0, hb⟩; have n0_ := Aside0.mk (Kd.R_lower ho0 (below_size (by repeat (first | (with_reducible first | exact HB.out | apply below_alloc | apply pw_below_drewN | apply below_drew1) | exact HB.out)))); have n1_ := Aside0.mk (below_step (by repeat (first | (with_reducible first | exact HB.out | apply below_alloc | apply pw_below_drewN | apply below_drew1) | exact HB.out)) hb); clear HB; have HO389 := n0_; have HB := n1_; clear n0_ n1_; (try clear hb); (try clear hb2); (try clear hk); (try clear hi); (try clear ho0))))
    (try simp only [Act.put, sI_, s0_, sS_])
    go_cut [44] (fun v44 wc => ∃ (kq : Nat) (x44_11 : Bool), v44 = .bool x44_11 ∧ Aside0 (cohousinglaw28_FlowWithin.j1 kq l1 l2 t384 t386 x44_11 = some r) ∧ Aside0 (kq ≤ kj4) ∧ Aside0 (Kd.R k39 39 wc w.heap.size (fun _ => True) v388 t386) ∧ Aside0 (Below w.heap.size w wc))
    case first =>
     have H := HC12.out
     clear HC12
     by_cases c14 : t387 = 0
     ·rw [if_pos c14] at H
      have c14b0 : (t387 == 0) = true := beq_iff_eq.mpr c14
      have c14b1 : (t387 != 0) = false := bne_eq_false_iff_eq.mpr c14
      clear c14
      (first | rw [c14b0] | (simp only [i64_w, i32_w]; rw [c14b0]) | skip)
      by_cases c15 : (t386.length : Int) = (l2.length : Int)
      ·rw [if_pos c15] at H
       have c15b0 : ((t386.length : Int) == (l2.length : Int)) = true := beq_iff_eq.mpr c15
       have c15b1 : ((t386.length : Int) != (l2.length : Int)) = false := bne_eq_false_iff_eq.mpr c15
       have c15b2 : (t386.length == l2.length) = true := by first | simpa using c15 | (simp at c15 ⊢; omega)
       clear c15
       have H' := Aside0.mk H
       clear H
       obtain ⟨Ao16, co16, eo16⟩ := Kd.R_slice HO389.out
       subst eo16
       go_wp2
       repeat (go_quiet (fail); try go_wp2)
       go_meet
       case rel => exact ⟨_, (((l1.length : Int) != (l2.length : Int))), (by first | rfl | (simp; done) | (simp [*]; done)), H', ⟨by have := HJ4.out; first | omega | exact Nat.le_refl _⟩, ⟨by (with_reducible repeat (first | apply Kd.R_alloc | apply Kd.R_drewN | apply Kd.R_drew)); exact HO389.out⟩, ⟨by repeat (first | (with_reducible first | exact HB.out | apply below_alloc | apply pw_below_drewN | apply below_drew1) | exact HB.out)⟩⟩
      ·rw [if_neg c15] at H
       have c15b0 : ((t386.length : Int) == (l2.length : Int)) = false := beq_eq_false_iff_ne.mpr c15
       have c15b1 : ((t386.length : Int) != (l2.length : Int)) = true := bne_iff_ne.mpr c15
       have c15b2 : (t386.length == l2.length) = false := by first | simpa using c15 | (simp at c15 ⊢; omega)
       have H' := Aside0.mk H
       clear H
       obtain ⟨Ao17, co17, eo17⟩ := Kd.R_slice HO389.out
       subst eo17
       go_wp2
       repeat (go_quiet (fail); try go_wp2)
       go_meet
       case rel => exact ⟨_, (true), (by first | rfl | (simp; done) | (simp [*]; done)), H', ⟨by have := HJ4.out; first | omega | exact Nat.le_refl _⟩, ⟨by (with_reducible repeat (first | apply Kd.R_alloc | apply Kd.R_drewN | apply Kd.R_drew)); exact HO389.out⟩, ⟨by repeat (first | (with_reducible first | exact HB.out | apply below_alloc | apply pw_below_drewN | apply below_drew1) | exact HB.out)⟩⟩
     ·rw [if_neg c14] at H
      have c14b0 : (t387 == 0) = false := beq_eq_false_iff_ne.mpr c14
      have c14b1 : (t387 != 0) = true := bne_iff_ne.mpr c14
      (first | rw [c14b0] | (simp only [i64_w, i32_w]; rw [c14b0]) | skip)
      have H' := Aside0.mk H
      clear H
      go_wp2
      repeat (go_quiet (fail); try go_wp2)
      go_meet
      case rel => exact ⟨_, (true), (by first | rfl | (simp; done) | (simp [*]; done)), H', ⟨by have := HJ4.out; first | omega | exact Nat.le_refl _⟩, ⟨by (with_reducible repeat (first | apply Kd.R_alloc | apply Kd.R_drewN | apply Kd.R_drew)); exact HO389.out⟩, ⟨by repeat (first | (with_reducible first | exact HB.out | apply below_alloc | apply pw_below_drewN | apply below_drew1) | exact HB.out)⟩⟩
    case rest =>
     clear HC12
     try clear c1
     try clear c2
     try clear p2
     try clear c5
     try clear c7
     try clear c7b0
     try clear c7b1
     try clear c10
     try clear c14
     try clear c14b0
     try clear c14b1
     try clear c15
     try clear c15b0
     try clear c15b1
     try clear c15b2
     try clear p2
     obtain ⟨kq, x44_11, rfl, HA, HJ11, HO_8, HB⟩ := hcut
     cases kq with
     | zero => exact absurd HA.out (by simp [cohousinglaw28_FlowWithin.j1])
     | succ kj11 =>
      have H := HA.out
      clear HA
      simp only [cohousinglaw28_FlowWithin.j1] at H
      by_cases c18 : x44_11 = true
      ·subst c18
       have H1 : (some false) = some r := by rw [if_pos rfl] at H; exact H
       clear H
       have H := H1
       clear H1
       obtain rfl := Option.some.inj H
       go_wp2
       repeat (go_quiet (fail); try go_wp2)
       go_ret
       exact ⟨by first | rfl | (simp [errW_none, errW_some] <;> rfl) | (simp [*, errW_none, errW_some] <;> rfl), by repeat (first | (with_reducible first | exact HB.out | apply below_alloc | apply pw_below_drewN | apply below_drew1) | exact HB.out)⟩
      ·replace c18 := Bool.eq_false_iff.mpr c18
       subst c18
       have H1 : (cohousinglaw28_FlowWithin.l0 kj11 l1 l2 t384 t386 (l2.length : Int) 0) = some r := by rw [if_neg (show ¬ (false = true) by decide)] at H; exact H
       clear H
       have H := H1
       clear H1
       have H' := Aside0.mk H
       clear H
       go_wp2
       repeat (go_quiet (fail); try go_wp2)
       go_loopg [7, 47] kj11 (fun kq v7 v47 w' => ∃ (x7_3 : Bool) (x47_3 : Int), v7 = .bool x7_3 ∧ v47 = .int .i64 x47_3 ∧ Aside0 (cohousinglaw28_FlowWithin.l0 kq l1 l2 x7_3 t386 (l2.length : Int) x47_3 = some r) ∧ Aside0 (kq ≤ kj11) ∧ Aside0 (Kd.R k39 39 w' w.heap.size (fun _ => True) v388 t386) ∧ Aside0 (Below w.heap.size w w'))
       case atStart => exact ⟨(t384), (0), (by first | rfl | (simp; done) | (simp [*]; done)), (by first | rfl | (simp; done) | (simp [*]; done)), H', ⟨Nat.le_refl _⟩, ⟨by (with_reducible repeat (first | apply Kd.R_alloc | apply Kd.R_drewN | apply Kd.R_drew)); exact HO_8.out⟩, ⟨by repeat (first | (with_reducible first | exact HB.out | apply below_alloc | apply pw_below_drewN | apply below_drew1) | exact HB.out)⟩⟩
       case round =>
        clear H'
        try clear c1
        try clear c2
        try clear p2
        try clear c5
        try clear c7
        try clear c7b0
        try clear c7b1
        try clear c10
        try clear c14
        try clear c14b0
        try clear c14b1
        try clear c15
        try clear c15b0
        try clear c15b1
        try clear c15b2
        try clear c18
        try clear p2
        obtain ⟨x7_3, x47_3, rfl, rfl, HA, HK3, HO_8, HB⟩ := hrel
        cases gk with
        | zero => exact absurd HA.out (by simp [cohousinglaw28_FlowWithin.l0])
        | succ k3 =>
         have H := HA.out
         clear HA
         simp only [cohousinglaw28_FlowWithin.l0] at H
         by_cases c19 : x47_3 < (l2.length : Int)
         ·rw [if_pos c19] at H
          have c19b0 : decide (x47_3 < (l2.length : Int)) = true := decide_eq_true c19
          clear c19
          by_cases c20 : x7_3 = true
          ·subst c20
           have H1 : (if 0 ≤ x47_3 then (if x47_3 < (t386.length : Int) then (if x47_3 < (l2.length : Int) then (if ((rd_T39 t386 x47_3).f0) ≤ (rd l2 x47_3) then (if (rd l2 x47_3) ≤ ((rd_T39 t386 x47_3).f1) then (if x47_3 < (l1.length : Int) then (if ((rd_T39 l1 x47_3).f0) ≤ ((rd_T39 t386 x47_3).f0) then (cohousinglaw28_FlowWithin.l0 k3 l1 l2 (decide (((rd_T39 t386 x47_3).f1) ≤ ((rd_T39 l1 x47_3).f1))) t386 (l2.length : Int) (wrap64 (x47_3 + 1))) else (cohousinglaw28_FlowWithin.l0 k3 l1 l2 false t386 (l2.length : Int) (wrap64 (x47_3 + 1)))) else (none)) else (cohousinglaw28_FlowWithin.l0 k3 l1 l2 false t386 (l2.length : Int) (wrap64 (x47_3 + 1)))) else (cohousinglaw28_FlowWithin.l0 k3 l1 l2 false t386 (l2.length : Int) (wrap64 (x47_3 + 1)))) else (none)) else (none)) else (none)) = some r := by rw [if_pos rfl] at H; exact H
           clear H
           have H := H1
           clear H1
           by_cases c21 : 0 ≤ x47_3
           ·rw [if_pos c21] at H
            have c21b0 : decide (0 ≤ x47_3) = true := decide_eq_true c21
            clear c21
            by_cases c22 : x47_3 < (t386.length : Int)
            ·rw [if_pos c22] at H
             have c22b0 : decide (x47_3 < (t386.length : Int)) = true := decide_eq_true c22
             clear c22
             by_cases c23 : x47_3 < (l2.length : Int)
             ·rw [if_pos c23] at H
              have c23b0 : decide (x47_3 < (l2.length : Int)) = true := decide_eq_true c23
              clear c23
              by_cases c24 : ((rd_T39 t386 x47_3).f0) ≤ (rd l2 x47_3)
              ·rw [if_pos c24] at H
               have c24b0 : decide (((rd_T39 t386 x47_3).f0) ≤ (rd l2 x47_3)) = true := decide_eq_true c24
               clear c24
               by_cases c25 : (rd l2 x47_3) ≤ ((rd_T39 t386 x47_3).f1)
               ·rw [if_pos c25] at H
                have c25b0 : decide ((rd l2 x47_3) ≤ ((rd_T39 t386 x47_3).f1)) = true := decide_eq_true c25
                clear c25
                by_cases c26 : x47_3 < (l1.length : Int)
                ·rw [if_pos c26] at H
                 have c26b0 : decide (x47_3 < (l1.length : Int)) = true := decide_eq_true c26
                 clear c26
                 by_cases c27 : ((rd_T39 l1 x47_3).f0) ≤ ((rd_T39 t386 x47_3).f0)
                 ·rw [if_pos c27] at H
                  have c27b0 : decide (((rd_T39 l1 x47_3).f0) ≤ ((rd_T39 t386 x47_3).f0)) = true := decide_eq_true c27
                  clear c27
                  have H' := Aside0.mk H
                  clear H
                  obtain ⟨Ao28, co28, eo28⟩ := Kd.R_slice HO_8.out
                  subst eo28
                  have p390 : 0 ≤ (x47_3 : Int) := of_decide_eq_true (by first | (with_reducible assumption) | assumption)
                  have q390 : x47_3 < (t386.length : Int) := of_decide_eq_true (by first | (with_reducible assumption) | assumption)
                  obtain ⟨ad390, e390, hx390_0, hx390_1⟩ := at_T39 (Kd.R_reads' HO_8.out).2.2 x47_3 p390 q390
                  cases e390
                  replace p390 := eq_true p390
                  replace q390 := eq_true q390
                  have p391 : 0 ≤ (x47_3 : Int) := of_decide_eq_true (by first | (with_reducible assumption) | assumption)
                  have q391 : x47_3 < (l2.length : Int) := of_decide_eq_true (by first | (with_reducible assumption) | assumption)
                  obtain ⟨ad391, e391, hx391_0⟩ := Kd.at_int HR2.out x47_3 p391 q391
                  cases e391
                  replace hx391_0 := (HB.out.cell (World.block_lt_of_cell? w _ hx391_0)).trans hx391_0
                  replace p391 := eq_true p391
                  replace q391 := eq_true q391
                  have p392 : 0 ≤ (x47_3 : Int) := of_decide_eq_true (by first | (with_reducible assumption) | assumption)
                  have q392 : x47_3 < (l2.length : Int) := of_decide_eq_true (by first | (with_reducible assumption) | assumption)
                  obtain ⟨ad392, e392, hx392_0⟩ := Kd.at_int HR2.out x47_3 p392 q392
                  obtain rfl : ad391 = ad392 := (by injection e392)
                  replace hx392_0 := (HB.out.cell (World.block_lt_of_cell? w _ hx392_0)).trans hx392_0
                  replace p392 := eq_true p392
                  replace q392 := eq_true q392
                  have p393 : 0 ≤ (x47_3 : Int) := of_decide_eq_true (by first | (with_reducible assumption) | assumption)
                  have q393 : x47_3 < (t386.length : Int) := of_decide_eq_true (by first | (with_reducible assumption) | assumption)
                  obtain ⟨ad393, e393, hx393_0, hx393_1⟩ := at_T39 (Kd.R_reads' HO_8.out).2.2 x47_3 p393 q393
                  obtain rfl : ad390 = ad393 := (by injection e393)
                  replace p393 := eq_true p393
                  replace q393 := eq_true q393
                  have p394 : 0 ≤ (x47_3 : Int) := of_decide_eq_true (by first | (with_reducible assumption) | assumption)
                  have q394 : x47_3 < (l1.length : Int) := of_decide_eq_true (by first | (with_reducible assumption) | assumption)
                  obtain ⟨ad394, e394, hx394_0, hx394_1⟩ := at_T39 HR1.out x47_3 p394 q394
                  cases e394
                  replace hx394_0 := (HB.out.cell (World.block_lt_of_cell? w _ hx394_0)).trans hx394_0
                  replace hx394_1 := (HB.out.cell (World.block_lt_of_cell? w _ hx394_1)).trans hx394_1
                  replace p394 := eq_true p394
                  replace q394 := eq_true q394
                  have p395 : 0 ≤ (x47_3 : Int) := of_decide_eq_true (by first | (with_reducible assumption) | assumption)
                  have q395 : x47_3 < (t386.length : Int) := of_decide_eq_true (by first | (with_reducible assumption) | assumption)
                  obtain ⟨ad395, e395, hx395_0, hx395_1⟩ := at_T39 (Kd.R_reads' HO_8.out).2.2 x47_3 p395 q395
                  obtain rfl : ad390 = ad395 := (by injection e395)
                  replace p395 := eq_true p395
                  replace q395 := eq_true q395
                  have p396 : 0 ≤ (x47_3 : Int) := of_decide_eq_true (by first | (with_reducible assumption) | assumption)
                  have q396 : x47_3 < (t386.length : Int) := of_decide_eq_true (by first | (with_reducible assumption) | assumption)
                  obtain ⟨ad396, e396, hx396_0, hx396_1⟩ := at_T39 (Kd.R_reads' HO_8.out).2.2 x47_3 p396 q396
                  obtain rfl : ad390 = ad396 := (by injection e396)
                  replace p396 := eq_true p396
                  replace q396 := eq_true q396
                  have p397 : 0 ≤ (x47_3 : Int) := of_decide_eq_true (by first | (with_reducible assumption) | assumption)
                  have q397 : x47_3 < (l1.length : Int) := of_decide_eq_true (by first | (with_reducible assumption) | assumption)
                  obtain ⟨ad397, e397, hx397_0, hx397_1⟩ := at_T39 HR1.out x47_3 p397 q397
                  obtain rfl : ad394 = ad397 := (by injection e397)
                  replace hx397_0 := (HB.out.cell (World.block_lt_of_cell? w _ hx397_0)).trans hx397_0
                  replace hx397_1 := (HB.out.cell (World.block_lt_of_cell? w _ hx397_1)).trans hx397_1
                  replace p397 := eq_true p397
                  replace q397 := eq_true q397
                  go_wp2
                  repeat (go_quiet (fail); try go_wp2)
                  go_roundg k3
                  case measure => have := HJ4.out; have := HJ11.out; have := HK3.out; omega
                  case rel => exact ⟨(decide (((rd_T39 t386 x47_3).f1) ≤ ((rd_T39 l1 x47_3).f1))), (wrap64 (x47_3 + 1)), (by first | rfl | (simp; done) | (simp [*]; done)), (by first | rfl | (simp; done) | (simp [*]; done)), H', ⟨by have := HJ4.out; have := HJ11.out; have := HK3.out; omega⟩, ⟨by (with_reducible repeat (first | apply Kd.R_alloc | apply Kd.R_drewN | apply Kd.R_drew)); exact HO_8.out⟩, ⟨by repeat (first | (with_reducible first | exact HB.out | apply below_alloc | apply pw_below_drewN | apply below_drew1) | exact HB.out)⟩⟩
                 ·rw [if_neg c27] at H
                  have c27b0 : decide (((rd_T39 l1 x47_3).f0) ≤ ((rd_T39 t386 x47_3).f0)) = false := decide_eq_false c27
                  clear c27
                  have H' := Aside0.mk H
                  clear H
                  obtain ⟨Ao29, co29, eo29⟩ := Kd.R_slice HO_8.out
                  subst eo29
                  have p390 : 0 ≤ (x47_3 : Int) := of_decide_eq_true (by first | (with_reducible assumption) | assumption)
                  have q390 : x47_3 < (t386.length : Int) := of_decide_eq_true (by first | (with_reducible assumption) | assumption)
                  obtain ⟨ad390, e390, hx390_0, hx390_1⟩ := at_T39 (Kd.R_reads' HO_8.out).2.2 x47_3 p390 q390
                  cases e390
                  replace p390 := eq_true p390
                  replace q390 := eq_true q390
                  have p391 : 0 ≤ (x47_3 : Int) := of_decide_eq_true (by first | (with_reducible assumption) | assumption)
                  have q391 : x47_3 < (l2.length : Int) := of_decide_eq_true (by first | (with_reducible assumption) | assumption)
                  obtain ⟨ad391, e391, hx391_0⟩ := Kd.at_int HR2.out x47_3 p391 q391
                  cases e391
                  replace hx391_0 := (HB.out.cell (World.block_lt_of_cell? w _ hx391_0)).trans hx391_0
                  replace p391 := eq_true p391
                  replace q391 := eq_true q391
                  have p392 : 0 ≤ (x47_3 : Int) := of_decide_eq_true (by first | (with_reducible assumption) | assumption)
                  have q392 : x47_3 < (l2.length : Int) := of_decide_eq_true (by first | (with_reducible assumption) | assumption)
                  obtain ⟨ad392, e392, hx392_0⟩ := Kd.at_int HR2.out x47_3 p392 q392
                  obtain rfl : ad391 = ad392 := (by injection e392)
                  replace hx392_0 := (HB.out.cell (World.block_lt_of_cell? w _ hx392_0)).trans hx392_0
                  replace p392 := eq_true p392
                  replace q392 := eq_true q392
                  have p393 : 0 ≤ (x47_3 : Int) := of_decide_eq_true (by first | (with_reducible assumption) | assumption)
                  have q393 : x47_3 < (t386.length : Int) := of_decide_eq_true (by first | (with_reducible assumption) | assumption)
                  obtain ⟨ad393, e393, hx393_0, hx393_1⟩ := at_T39 (Kd.R_reads' HO_8.out).2.2 x47_3 p393 q393
                  obtain rfl : ad390 = ad393 := (by injection e393)
                  replace p393 := eq_true p393
                  replace q393 := eq_true q393
                  have p394 : 0 ≤ (x47_3 : Int) := of_decide_eq_true (by first | (with_reducible assumption) | assumption)
                  have q394 : x47_3 < (l1.length : Int) := of_decide_eq_true (by first | (with_reducible assumption) | assumption)
                  obtain ⟨ad394, e394, hx394_0, hx394_1⟩ := at_T39 HR1.out x47_3 p394 q394
                  cases e394
                  replace hx394_0 := (HB.out.cell (World.block_lt_of_cell? w _ hx394_0)).trans hx394_0
                  replace hx394_1 := (HB.out.cell (World.block_lt_of_cell? w _ hx394_1)).trans hx394_1
                  replace p394 := eq_true p394
                  replace q394 := eq_true q394
                  have p395 : 0 ≤ (x47_3 : Int) := of_decide_eq_true (by first | (with_reducible assumption) | assumption)
                  have q395 : x47_3 < (t386.length : Int) := of_decide_eq_true (by first | (with_reducible assumption) | assumption)
                  obtain ⟨ad395, e395, hx395_0, hx395_1⟩ := at_T39 (Kd.R_reads' HO_8.out).2.2 x47_3 p395 q395
                  obtain rfl : ad390 = ad395 := (by injection e395)
                  replace p395 := eq_true p395
                  replace q395 := eq_true q395
                  go_wp2
                  repeat (go_quiet (fail); try go_wp2)
                  go_roundg k3
                  case measure => have := HJ4.out; have := HJ11.out; have := HK3.out; omega
                  case rel => exact ⟨(false), (wrap64 (x47_3 + 1)), (by first | rfl | (simp; done) | (simp [*]; done)), (by first | rfl | (simp; done) | (simp [*]; done)), H', ⟨by have := HJ4.out; have := HJ11.out; have := HK3.out; omega⟩, ⟨by (with_reducible repeat (first | apply Kd.R_alloc | apply Kd.R_drewN | apply Kd.R_drew)); exact HO_8.out⟩, ⟨by repeat (first | (with_reducible first | exact HB.out | apply below_alloc | apply pw_below_drewN | apply below_drew1) | exact HB.out)⟩⟩
                ·rw [if_neg c26] at H
                 exact absurd H (by simp)
               ·rw [if_neg c25] at H
                have c25b0 : decide ((rd l2 x47_3) ≤ ((rd_T39 t386 x47_3).f1)) = false := decide_eq_false c25
                clear c25
                have H' := Aside0.mk H
                clear H
                obtain ⟨Ao30, co30, eo30⟩ := Kd.R_slice HO_8.out
                subst eo30
                have p390 : 0 ≤ (x47_3 : Int) := of_decide_eq_true (by first | (with_reducible assumption) | assumption)
                have q390 : x47_3 < (t386.length : Int) := of_decide_eq_true (by first | (with_reducible assumption) | assumption)
                obtain ⟨ad390, e390, hx390_0, hx390_1⟩ := at_T39 (Kd.R_reads' HO_8.out).2.2 x47_3 p390 q390
                cases e390
                replace p390 := eq_true p390
                replace q390 := eq_true q390
                have p391 : 0 ≤ (x47_3 : Int) := of_decide_eq_true (by first | (with_reducible assumption) | assumption)
                have q391 : x47_3 < (l2.length : Int) := of_decide_eq_true (by first | (with_reducible assumption) | assumption)
                obtain ⟨ad391, e391, hx391_0⟩ := Kd.at_int HR2.out x47_3 p391 q391
                cases e391
                replace hx391_0 := (HB.out.cell (World.block_lt_of_cell? w _ hx391_0)).trans hx391_0
                replace p391 := eq_true p391
                replace q391 := eq_true q391
                have p392 : 0 ≤ (x47_3 : Int) := of_decide_eq_true (by first | (with_reducible assumption) | assumption)
                have q392 : x47_3 < (l2.length : Int) := of_decide_eq_true (by first | (with_reducible assumption) | assumption)
                obtain ⟨ad392, e392, hx392_0⟩ := Kd.at_int HR2.out x47_3 p392 q392
                obtain rfl : ad391 = ad392 := (by injection e392)
                replace hx392_0 := (HB.out.cell (World.block_lt_of_cell? w _ hx392_0)).trans hx392_0
                replace p392 := eq_true p392
                replace q392 := eq_true q392
                have p393 : 0 ≤ (x47_3 : Int) := of_decide_eq_true (by first | (with_reducible assumption) | assumption)
                have q393 : x47_3 < (t386.length : Int) := of_decide_eq_true (by first | (with_reducible assumption) | assumption)
                obtain ⟨ad393, e393, hx393_0, hx393_1⟩ := at_T39 (Kd.R_reads' HO_8.out).2.2 x47_3 p393 q393
                obtain rfl : ad390 = ad393 := (by injection e393)
                replace p393 := eq_true p393
                replace q393 := eq_true q393
                go_wp2
                repeat (go_quiet (fail); try go_wp2)
                go_roundg k3
                case measure => have := HJ4.out; have := HJ11.out; have := HK3.out; omega
                case rel => exact ⟨(false), (wrap64 (x47_3 + 1)), (by first | rfl | (simp; done) | (simp [*]; done)), (by first | rfl | (simp; done) | (simp [*]; done)), H', ⟨by have := HJ4.out; have := HJ11.out; have := HK3.out; omega⟩, ⟨by (with_reducible repeat (first | apply Kd.R_alloc | apply Kd.R_drewN | apply Kd.R_drew)); exact HO_8.out⟩, ⟨by repeat (first | (with_reducible first | exact HB.out | apply below_alloc | apply pw_below_drewN | apply below_drew1) | exact HB.out)⟩⟩
              ·rw [if_neg c24] at H
               have c24b0 : decide (((rd_T39 t386 x47_3).f0) ≤ (rd l2 x47_3)) = false := decide_eq_false c24
               clear c24
               have H' := Aside0.mk H
               clear H
               obtain ⟨Ao31, co31, eo31⟩ := Kd.R_slice HO_8.out
               subst eo31
               have p390 : 0 ≤ (x47_3 : Int) := of_decide_eq_true (by first | (with_reducible assumption) | assumption)
               have q390 : x47_3 < (t386.length : Int) := of_decide_eq_true (by first | (with_reducible assumption) | assumption)
               obtain ⟨ad390, e390, hx390_0, hx390_1⟩ := at_T39 (Kd.R_reads' HO_8.out).2.2 x47_3 p390 q390
               cases e390
               replace p390 := eq_true p390
               replace q390 := eq_true q390
               have p391 : 0 ≤ (x47_3 : Int) := of_decide_eq_true (by first | (with_reducible assumption) | assumption)
               have q391 : x47_3 < (l2.length : Int) := of_decide_eq_true (by first | (with_reducible assumption) | assumption)
               obtain ⟨ad391, e391, hx391_0⟩ := Kd.at_int HR2.out x47_3 p391 q391
               cases e391
               replace hx391_0 := (HB.out.cell (World.block_lt_of_cell? w _ hx391_0)).trans hx391_0
               replace p391 := eq_true p391
               replace q391 := eq_true q391
               go_wp2
               repeat (go_quiet (fail); try go_wp2)
               go_roundg k3
               case measure => have := HJ4.out; have := HJ11.out; have := HK3.out; omega
               case rel => exact ⟨(false), (wrap64 (x47_3 + 1)), (by first | rfl | (simp; done) | (simp [*]; done)), (by first | rfl | (simp; done) | (simp [*]; done)), H', ⟨by have := HJ4.out; have := HJ11.out; have := HK3.out; omega⟩, ⟨by (with_reducible repeat (first | apply Kd.R_alloc | apply Kd.R_drewN | apply Kd.R_drew)); exact HO_8.out⟩, ⟨by repeat (first | (with_reducible first | exact HB.out | apply below_alloc | apply pw_below_drewN | apply below_drew1) | exact HB.out)⟩⟩
             ·rw [if_neg c23] at H
              exact absurd H (by simp)
            ·rw [if_neg c22] at H
             exact absurd H (by simp)
           ·rw [if_neg c21] at H
            exact absurd H (by simp)
          ·replace c20 := Bool.eq_false_iff.mpr c20
           subst c20
           have H1 : (cohousinglaw28_FlowWithin.l0 k3 l1 l2 false t386 (l2.length : Int) (wrap64 (x47_3 + 1))) = some r := by rw [if_neg (show ¬ (false = true) by decide)] at H; exact H
           clear H
           have H := H1
           clear H1
           have H' := Aside0.mk H
           clear H
           go_wp2
           repeat (go_quiet (fail); try go_wp2)
           go_roundg k3
           case measure => have := HJ4.out; have := HJ11.out; have := HK3.out; omega
           case rel => exact ⟨(false), (wrap64 (x47_3 + 1)), (by first | rfl | (simp; done) | (simp [*]; done)), (by first | rfl | (simp; done) | (simp [*]; done)), H', ⟨by have := HJ4.out; have := HJ11.out; have := HK3.out; omega⟩, ⟨by (with_reducible repeat (first | apply Kd.R_alloc | apply Kd.R_drewN | apply Kd.R_drew)); exact HO_8.out⟩, ⟨by repeat (first | (with_reducible first | exact HB.out | apply below_alloc | apply pw_below_drewN | apply below_drew1) | exact HB.out)⟩⟩
         ·rw [if_neg c19] at H
          have c19b0 : decide (x47_3 < (l2.length : Int)) = false := decide_eq_false c19
          clear c19
          obtain rfl := Option.some.inj H
          go_wp2
          repeat (go_quiet (fail); try go_wp2)
          go_ret
          exact ⟨by first | rfl | (simp [errW_none, errW_some] <;> rfl) | (simp [*, errW_none, errW_some] <;> rfl), by repeat (first | (with_reducible first | exact HB.out | apply below_alloc | apply pw_below_drewN | apply below_drew1) | exact HB.out)⟩
end Go.Proofs.Ytmojlpafpeeelaa.P
end
section
namespace Go.Proofs.Ytmojlpafpeeelaa.P
open Go.RowKit Go.Proofs.YtmojlpafpeeelaaW.PrintWords Go.Proofs.YtmojlpafpeeelaaW.PrintLast Go.Proofs.YtmojlpafpeeelaaW.PrintMore
attribute [local go_sem] max2_int min2_int max_two min_two max_three min_three max_four min_four
set_option linter.unusedVariables false
set_option linter.unusedSimpArgs false
mutual
def cohousinglaw28_FlowMatchesReference.j0 : Nat → List (S44) → List (S39) → List Int → Int → Int → Bool → Bool → Option (Bool)
 | 0, _, _, _, _, _, _, _ => none
 | k + 1, x0, x1, x2, x3, x4, x11, x28 => if x28 = true then (some x11) else ((flow_Bounds.f x0 x1).bind fun bt312 => ((cohousingref28_Bounds.f k x0 x1).bind fun bt316 => (if x11 = true then ((flow_Valid.f x0).bind fun t320 => ((cohousingref28_Valid.f k x0).bind fun t321 => (if (t320 == t321) = true then ((cohousingref28_Same.f k bt312.1 bt316.1).bind fun t322 => (if t322 = true then (cohousinglaw28_FlowMatchesReference.j1 k x0 x1 x2 x3 x4 (bt312.2 == bt316.2)) else (cohousinglaw28_FlowMatchesReference.j1 k x0 x1 x2 x3 x4 false))) else (cohousinglaw28_FlowMatchesReference.j1 k x0 x1 x2 x3 x4 false)))) else (cohousinglaw28_FlowMatchesReference.j1 k x0 x1 x2 x3 x4 false))))
def cohousinglaw28_FlowMatchesReference.j1 : Nat → List (S44) → List (S39) → List Int → Int → Int → Bool → Option (Bool)
 | 0, _, _, _, _, _, _ => none
 | k + 1, x0, x1, x2, x3, x4, x11 => (flow_Consistent.f x0 x1 x2).bind fun bt323 => ((cohousingref28_Consistent.f k x0 x1 x2).bind fun bt325 => (if x11 = true then (if (bt323.1 == bt325.1) = true then ((flow_State.f x0 x1 x3 x4).bind fun bt327 => ((cohousingref28_State.f k x0 x1 x3 x4).bind fun bt331 => (if bt323.2 = bt325.2 then ((cohousingref02_Same.f k bt327.1 bt331.1).bind fun t335 => (if t335 = true then (some (bt327.2 == bt331.2)) else (some false))) else (some false)))) else ((flow_State.f x0 x1 x3 x4).bind fun bt336 => ((cohousingref28_State.f k x0 x1 x3 x4).bind fun bt340 => (some false)))) else ((flow_State.f x0 x1 x3 x4).bind fun bt344 => ((cohousingref28_State.f k x0 x1 x3 x4).bind fun bt348 => (some false)))))
end
end Go.Proofs.Ytmojlpafpeeelaa.P
end
section
namespace Go.Proofs.Ytmojlpafpeeelaa.P
open Go.RowKit Go.Proofs.YtmojlpafpeeelaaW.PrintWords Go.Proofs.YtmojlpafpeeelaaW.PrintLast Go.Proofs.YtmojlpafpeeelaaW.PrintMore Go.Proofs.YtmojlpafpeeelaaH Go.Proofs.FlowTree
open Classical
theorem Ev.of_mono {α : Type} {f : Nat → Option α} {r : α} (k0 : Nat) (h0 : f k0 = some r) (h : ∀ k, LeO (f k) (f (k + 1))) : Ev f r := by
 refine ⟨k0, fun k hk => ?_⟩
 obtain ⟨d, rfl⟩ : ∃ d, k = k0 + d := ⟨k - k0, by omega⟩
 induction d with
 | zero => exact h0
 | succ d ih => exact h _ _ (ih (by omega))
theorem head_ev : Ev (fun k => cohousinglaw28_head.f k) true := Ev.of_mono 40 (by kernel_rfl) (fun k => cohousinglaw28_head.mono k)
theorem B_f (l : List PI) (r : List RG) (x : List Int) (hl : l.length ≤ 5864062014805) (hr : r.length ≤ 140737488355328) (hx : x.length ≤ 17592186044416) : flow_Bounds.f l r = some (boundsR l r) := by unfold flow_Bounds.f; rw [if_pos ⟨hl, hr⟩]
theorem C_f (l : List PI) (r : List RG) (x : List Int) (hl : l.length ≤ 5864062014805) (hr : r.length ≤ 140737488355328) (hx : x.length ≤ 17592186044416) : flow_Consistent.f l r x = some (consR l r x) := by unfold flow_Consistent.f; rw [if_pos ⟨hl, hr, hx⟩]
section
variable (l : List PI) (r : List RG) (x : List Int) (hl : l.length ≤ 5864062014805) (hr : r.length ≤ 140737488355328) (hx : x.length ≤ 17592186044416)
include hl hr hx
end
end Go.Proofs.Ytmojlpafpeeelaa.P
end
section
namespace Go.Proofs.Ytmojlpafpeeelaa.P
open Go.RowKit Go.Proofs.YtmojlpafpeeelaaW.PrintWords Go.Proofs.YtmojlpafpeeelaaW.PrintLast Go.Proofs.YtmojlpafpeeelaaW.PrintMore
attribute [local go_sem] max2_int min2_int max_two min_two max_three min_three max_four min_four
set_option linter.unusedVariables false
set_option linter.unusedSimpArgs false
mutual
def cohousinglaw28_FlowFirst.j0 : Nat → List (S44) → List (S39) → List Int → Int → Bool → Bool → Option (Bool)
 | 0, _, _, _, _, _, _ => none
 | k + 1, x0, x1, x2, x3, x9, x33 => if x33 = true then (some x9) else (if 0 ≤ x3 then (if x3 < (x2.length : Int) then ((flow_State.f x0 x1 x3 (rd x2 x3)).bind fun bt449 => (if bt449.2 = 0 then (cohousinglaw28_FlowFirst.j1 k x2 x9 bt449.1 ((bt449.1.length : Int) != (x2.length : Int))) else (cohousinglaw28_FlowFirst.j1 k x2 x9 bt449.1 true))) else (none)) else (none))
def cohousinglaw28_FlowFirst.j1 : Nat → List Int → Bool → List Int → Bool → Option (Bool)
 | 0, _, _, _, _ => none
 | k + 1, x2, x9, x10, x54 => if x54 = true then (some false) else (cohousinglaw28_FlowFirst.l0 k x2 x9 x10 (x2.length : Int) 0)
def cohousinglaw28_FlowFirst.l0 : Nat → List Int → Bool → List Int → Int → Int → Option (Bool)
 | 0, _, _, _, _, _ => none
 | k + 1, x2, x9, x10, x56, x57 => if x57 < x56 then (if 0 ≤ x57 then (if x57 < (x2.length : Int) then (if x57 < (x10.length : Int) then (if (rd x2 x57) = (rd x10 x57) then (cohousinglaw28_FlowFirst.l0 k x2 x9 x10 x56 (wrap64 (x57 + 1))) else (if x9 = true then (some (decide ((rd x10 x57) < (rd x2 x57)))) else (some false))) else (none)) else (none)) else (none)) else (some x9)
end
end Go.Proofs.Ytmojlpafpeeelaa.P
end
section
namespace Go.Proofs.Ytmojlpafpeeelaa.P
open Go.RowKit Go.Proofs.YtmojlpafpeeelaaW.PrintWords Go.Proofs.YtmojlpafpeeelaaW.PrintLast Go.Proofs.YtmojlpafpeeelaaW.PrintMore
attribute [local go_sem] max2_int min2_int max_two min_two max_three min_three max_four min_four
set_option linter.unusedVariables false
set_option linter.unusedSimpArgs false
mutual
def cohousinglaw28_FlowExact.j0 : Nat → List (S44) → List (S39) → Int → Int → Bool → Bool → Option (Bool)
 | 0, _, _, _, _, _, _ => none
 | k + 1, x0, x1, x2, x3, x9, x32 => if x32 = true then (some x9) else ((flow_Bounds.f x0 x1).bind fun bt358 => (if bt358.2 = 0 then (if (bt358.1.length : Int) = (x0.length : Int) then (if 0 ≤ x2 then (if x2 < (bt358.1.length : Int) then (cohousinglaw28_FlowExact.j1 k x0 x1 x2 x3 x9 bt358.1 (decide (((rd_T39 bt358.1 x2).f0) > ((rd_T39 bt358.1 x2).f1)))) else (none)) else (none)) else (cohousinglaw28_FlowExact.j1 k x0 x1 x2 x3 x9 bt358.1 true)) else ((flow_State.f x0 x1 x2 x3).bind fun bt362 => (if x9 = true then (if bt358.2 = 30 then (if bt362.2 = 30 then (some ((bt362.1.length : Int) == 0)) else (some false)) else (some false)) else (some false)))))
def cohousinglaw28_FlowExact.j1 : Nat → List (S44) → List (S39) → Int → Int → Bool → List (S39) → Bool → Option (Bool)
 | 0, _, _, _, _, _, _, _ => none
 | k + 1, x0, x1, x2, x3, x9, x10, x81 => if x81 = true then (some false) else (if 0 ≤ x2 then (if x2 < (x10.length : Int) then ((some (([x3, (rd_T39 x10 x2).f0, (rd_T39 x10 x2).f1, wrap64 (((rd_T39 x10 x2).f0) - 1), wrap64 (((rd_T39 x10 x2).f1) + 1)] : List Int) : List Int)).bind fun y372 => (cohousinglaw28_FlowExact.l0 k x0 x1 x2 x9 x10 y372 (y372.length : Int) 0)) else (none)) else (none))
def cohousinglaw28_FlowExact.l0 : Nat → List (S44) → List (S39) → Int → Bool → List (S39) → List Int → Int → Int → Option (Bool)
 | 0, _, _, _, _, _, _, _, _ => none
 | k + 1, x0, x1, x2, x9, x10, x105, x106, x107 => if x107 < x106 then (if 0 ≤ x107 then (if x107 < (x105.length : Int) then ((flow_State.f x0 x1 x2 (rd x105 x107)).bind fun bt376 => (if 0 ≤ x2 then (if x2 < (x10.length : Int) then (if (rd x105 x107) < ((rd_T39 x10 x2).f0) then (cohousinglaw28_FlowExact.j3 k x0 x1 x2 x9 x10 (rd x105 x107) bt376.1 bt376.2 x105 x106 x107 true) else (cohousinglaw28_FlowExact.j3 k x0 x1 x2 x9 x10 (rd x105 x107) bt376.1 bt376.2 x105 x106 x107 (decide ((rd x105 x107) > ((rd_T39 x10 x2).f1))))) else (none)) else (none))) else (none)) else (none)) else (some x9)
def cohousinglaw28_FlowExact.j3 : Nat → List (S44) → List (S39) → Int → Bool → List (S39) → Int → List Int → Int → List Int → Int → Int → Bool → Option (Bool)
 | 0, _, _, _, _, _, _, _, _, _, _, _, _ => none
 | k + 1, x0, x1, x2, x9, x10, x15, x16, x17, x105, x106, x107, x134 => if x134 = true then (if x9 = true then (if x17 = 30 then (cohousinglaw28_FlowExact.l0 k x0 x1 x2 ((x16.length : Int) == 0) x10 x105 x106 (wrap64 (x107 + 1))) else (cohousinglaw28_FlowExact.l0 k x0 x1 x2 false x10 x105 x106 (wrap64 (x107 + 1)))) else (cohousinglaw28_FlowExact.l0 k x0 x1 x2 false x10 x105 x106 (wrap64 (x107 + 1)))) else (if x17 = 0 then (if (x16.length : Int) = (x0.length : Int) then (if 0 ≤ x2 then (if x2 < (x16.length : Int) then (if (rd x16 x2) = x15 then ((cohousinglaw28_consistent.f x0 x1 x16).bind fun t383 => (if t383 = true then (cohousinglaw28_FlowExact.l0 k x0 x1 x2 x9 x10 x105 x106 (wrap64 (x107 + 1))) else (some false))) else (some false)) else (none)) else (none)) else (some false)) else (some false))
end
end Go.Proofs.Ytmojlpafpeeelaa.P
end
section
namespace Go.Proofs.Ytmojlpafpeeelaa.P
open Go.RowKit Go.Proofs.YtmojlpafpeeelaaW.PrintWords Go.Proofs.YtmojlpafpeeelaaW.PrintLast Go.Proofs.YtmojlpafpeeelaaW.PrintMore Go.Proofs.YtmojlpafpeeelaaH Go.Proofs.FlowTree
open Classical
def Cons (l : List PI) (r : List RG) (x : List Int) : Prop := Good l r ∧ x.length = l.length ∧ Sol (netT l) (lo9 r) (hi9 r) (fx x)
section
variable (l : List PI) (r : List RG) (x : List Int) (hl : l.length ≤ 5864062014805) (hr : r.length ≤ 140737488355328) (hx : x.length ≤ 17592186044416)
theorem consistent_f (l : List PI) (r : List RG) (x : List Int) (hl : l.length ≤ 5864062014805) (hr : r.length ≤ 140737488355328) (hx : x.length ≤ 17592186044416) : cohousinglaw28_consistent.f l r x = some (decide (Cons l r x)) := by
 unfold cohousinglaw28_consistent.f
 rw [C_f l r x hl hr hx, Option.bind_some, consR_is]
 by_cases hg : Good l r ∧ x.length = l.length
 ·rw [if_pos hg]
  by_cases hs : Sol (netT l) (lo9 r) (hi9 r) (fx x)
  ·rw [decide_eq_true hs, decide_eq_true (show Cons l r x from ⟨hg.1, hg.2, hs⟩)]
   rfl
  ·rw [decide_eq_false hs, decide_eq_false (show ¬ Cons l r x from fun h => hs h.2.2)]
   rfl
 ·rw [if_neg hg, decide_eq_false (show ¬ Cons l r x from fun h => hg ⟨h.1, h.2.1⟩)]
  rfl
theorem bounds_cons {l : List PI} {r : List RG} (hg : Good l r) (hs : ∃ x, Sol (netT l) (lo9 r) (hi9 r) x) : ∃ d, boundsR l r = (d.map toR, 0) ∧ Exact l (lo9 r) (hi9 r) d := by
 have h := boundsR_is l r
 generalize boundsR l r = q at h
 cases h with
 | arg h => exact absurd hg h
 | flow _ h => exact absurd hs h
 | ok d _ h => exact ⟨d, rfl, h⟩
theorem within_l0 {l : List PI} {r : List RG} {x : List Int} (hc : Cons l r x) {d : List IV} (hd : Exact l (lo9 r) (hi9 r) d) : ∀ (n i : Nat), i + n = l.length → Ev (fun k => cohousinglaw28_FlowWithin.l0 k r x true (d.map toR) (x.length : Int) (i : Int)) true := by
 have hn := hc.1.n
 have hrl := hc.1.len
 intro n
 induction n with
 | zero =>
  intro i hi
  have h1 : ¬ ((i : Int) < (x.length : Int)) := by rw [hc.2.1]; omega
  refine Ev.step ?_
  simp only [cohousinglaw28_FlowWithin.l0, h1, if_false]
  exact Ev.pure _
 | succ n ih =>
  intro i hi
  have h1 : ((i : Int) < (x.length : Int)) := by rw [hc.2.1]; omega
  have h2 : (0 : Int) ≤ (i : Int) := by omega
  have h3 : ((i : Int) < ((d.map toR).length : Int)) := by rw [List.length_map, hd.len]; omega
  have h4 : ((i : Int) < (r.length : Int)) := by omega
  have hs := hd.sol (fx x) hc.2.2 i (by omega)
  have hr := hd.rng i (by omega)
  have e1 : (rd_T39 (d.map toR) (i : Int)).f0 = Lo d i := congrFun (lo_map d) i
  have e2 : (rd_T39 (d.map toR) (i : Int)).f1 = Hi d i := congrFun (hi_map d) i
  have e3 : (rd_T39 r (i : Int)).f0 = lo9 r i := rfl
  have e4 : (rd_T39 r (i : Int)).f1 = hi9 r i := rfl
  have e5 : rd x (i : Int) = fx x i := rfl
  have c1 : Lo d i ≤ fx x i := hs.1
  have c2 : fx x i ≤ Hi d i := hs.2
  have c3 : lo9 r i ≤ Lo d i := hr.2.2.2.1
  have c4 : decide (Hi d i ≤ hi9 r i) = true := decide_eq_true hr.2.2.2.2
  refine Ev.step ?_
  simp only [cohousinglaw28_FlowWithin.l0, h1, h2, h3, h4, e1, e2, e3, e4, e5, c1, c2, c3, c4, if_true, wrap_nat (show i ≤ 140737488355328 by omega)]
  exact ih (i + 1) (by omega)
theorem within_ (l : List PI) (r : List RG) (x : List Int) (hl : l.length ≤ 5864062014805) (hr : r.length ≤ 140737488355328) (hx : x.length ≤ 17592186044416) : Ev (fun k => cohousinglaw28_FlowWithin.f k l r x) true := by
 have hout : ∀ c : Bool, c = true → Ev (fun k => cohousinglaw28_FlowWithin.j0 k l r x true c) true := by
  intro c hc
  refine Ev.step ?_
  simp only [cohousinglaw28_FlowWithin.j0, hc, if_true]
  exact Ev.pure _
 unfold cohousinglaw28_FlowWithin.f
 refine Ev.bnd head_ev ?_
 by_cases h40 : (l.length : Int) > 40
 ·simp only [h40, if_true]
  exact hout _ rfl
 ·simp only [h40, if_false, consistent_f l r x hl hr hx, Option.bind_some]
  by_cases hc : Cons l r x
  ·rw [decide_eq_true hc]
   obtain ⟨d, hb, hd⟩ := bounds_cons hc.1 ⟨_, hc.2.2⟩
   have e1 : (((d.map toR).length : Nat) : Int) = (x.length : Int) := by rw [List.length_map, hd.len, hc.2.1]
   have e2 : ((r.length : Int) != (x.length : Int)) = false := by rw [hc.1.len, hc.2.1]; simp
   refine Ev.step ?_
   simp only [cohousinglaw28_FlowWithin.j0, Bool.not_true, Bool.false_eq_true, if_false, B_f l r x hl hr hx, Option.bind_some, hb, if_true, e1, e2]
   refine Ev.step ?_
   simp only [cohousinglaw28_FlowWithin.j1, Bool.false_eq_true, if_false]
   exact within_l0 hc hd l.length 0 (by omega)
  ·rw [decide_eq_false hc]
   exact hout _ rfl
end
end Go.Proofs.Ytmojlpafpeeelaa.P
end
