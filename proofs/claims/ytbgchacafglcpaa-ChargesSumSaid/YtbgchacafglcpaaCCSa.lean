/- Part 1 of the proof of ChargesSum: what it alone needs. -/
import Derived.Test.YtbgchacafglcpaaCBe
set_option linter.unusedVariables false
set_option linter.unusedSimpArgs false
section
namespace Go.Proofs.Ytbgchacafglcpaa.P
open Go.RowKit Go.Proofs.YtbgchacafglcpaaW.PrintWords Go.Proofs.YtbgchacafglcpaaW.PrintLast Go.Proofs.YtbgchacafglcpaaW.PrintMore
attribute [local go_sem] max2_int min2_int max_two min_two max_three min_three max_four min_four
set_option linter.unusedVariables false
set_option linter.unusedSimpArgs false
def cohousinglaw29_ChargesSum.l0 : Nat → Int → List (S38) → Bool → List (S43) → Int → Int → Int → Option (Bool)
 | 0, _, _, _, _, _, _, _ => none
 | k + 1, x0, x3, x9, x10, x11, x13, x14 => if x14 < (x10.length : Int) then (if 0 ≤ x14 then (if ((rd_T43 x10 x14).f1) < ((rd_T43 x10 x14).f2.f0) then (some false) else (if ((rd_T43 x10 x14).f1) > ((rd_T43 x10 x14).f2.f1) then (some false) else (if (((rd_T43 x10 x14).f3) != (((rd_T43 x10 x14).f2.f0) == ((rd_T43 x10 x14).f2.f1))) = true then (some false) else (cohousinglaw29_ChargesSum.l0 k x0 x3 x9 x10 x11 (wrap64 (x13 + ((rd_T43 x10 x14).f1))) (wrap64 (x14 + 1)))))) else (none)) else (if x9 = true then (if (x10.length : Int) = (x3.length : Int) then (if x13 = x0 then (some (decide ((wrap64 ((-2) * x11)) ≤ (x10.length : Int)))) else (some false)) else (some false)) else (some false))
def cohousinglaw29_ChargesSum.f (k : Nat) (a0 : Int) (a1 : Int) (l2 : List Int) (l3 : List (S38)) : Option (Bool) := (cohousinglaw29_head.f k).bind fun t434 => (if (l3.length : Int) > 20 then (some t434) else ((charges_Share.f a0 a1 l2 l3).bind fun bt435 => (if bt435.2.2 = 0 then (cohousinglaw29_ChargesSum.l0 k a0 l3 t434 bt435.1 bt435.2.1 bt435.2.1 0) else (if t434 = true then (if (bt435.1.length : Int) = 0 then (some (bt435.2.1 == 0)) else (some false)) else (some false)))))
set_option maxHeartbeats 8000000 in
set_option maxRecDepth 100000 in
theorem cohousinglaw29_ChargesSum.calls (k : Nat) (a0 : Int) (a1 : Int) (A2 : Option Addr) (c2 : Nat) (l2 : List Int) (A3 : Option Addr) (c3 : Nat) (l3 : List (S38)) (r : Bool) (w : World) (hr2 : Kd.C (Kd.int .i64) w A2 l2.length l2) (hc2 : l2.length ≤ c2) (hr3 : Kd.C k38 w A3 l3.length l3) (hc3 : l3.length ≤ c3) (h : cohousinglaw29_ChargesSum.f k a0 a1 l2 l3 = some r) :
  Calls Try.prog 6 #[.int .i64 a0, .int .i64 a1, .slice A2 l2.length c2, .slice A3 l3.length c3] w fun e w' => e = .returned (.bool r) ∧ Below w.heap.size w w' := by
 have HR2 := Aside0.mk hr2
 have HC2 := Aside0.mk hc2
 clear hr2 hc2
 have HR3 := Aside0.mk hr3
 have HC3 := Aside0.mk hc3
 clear hr3 hc3
 have HB := Aside0.mk (Below.refl w.heap.size w)
 have H : ((cohousinglaw29_head.f k).bind fun t434 => (if (l3.length : Int) > 20 then (some t434) else ((charges_Share.f a0 a1 l2 l3).bind fun bt435 => (if bt435.2.2 = 0 then (cohousinglaw29_ChargesSum.l0 k a0 l3 t434 bt435.1 bt435.2.1 bt435.2.1 0) else (if t434 = true then (if (bt435.1.length : Int) = 0 then (some (bt435.2.1 == 0)) else (some false)) else (some false)))))) = some r := h
 clear h
 replace H := Option.bind_eq_some_iff.mp H
 obtain ⟨t434, A50, H⟩ := H
 replace H : (if (l3.length : Int) > 20 then (some t434) else ((charges_Share.f a0 a1 l2 l3).bind fun bt435 => (if bt435.2.2 = 0 then (cohousinglaw29_ChargesSum.l0 k a0 l3 t434 bt435.1 bt435.2.1 bt435.2.1 0) else (if t434 = true then (if (bt435.1.length : Int) = 0 then (some (bt435.2.1 == 0)) else (some false)) else (some false))))) = some r := H
 have A5 := Aside0.mk A50
 clear A50
 by_cases c6 : (l3.length : Int) > 20
 ·rw [if_pos c6] at H
  have c6b0 : decide (20 < (l3.length : Int)) = true := decide_eq_true c6
  have c6b1 : decide (20 < l3.length) = true := decide_eq_true (by omega)
  clear c6
  obtain rfl := Option.some.inj H
  go_enter Try.func6, Try.ntmps6
  go_wp2_with (first | (go_at_call 20; (with_reducible refine (cohousinglaw29_head.calls k  t434 _ A5.out).mono ?_); rintro e w7 ⟨rfl, hb⟩; have n0_ := Aside0.mk (below_step (by repeat (first | (with_reducible first | exact HB.out | apply below_alloc | apply pw_below_drewN | apply below_drew1) | exact HB.out)) hb); clear HB; have HB := n0_; clear n0_; (try clear hb); (try clear hb2); (try clear hk); (try clear hi)))
  repeat (go_quiet (first | (go_at_call 20; (with_reducible refine (cohousinglaw29_head.calls k  t434 _ A5.out).mono ?_); rintro e w7 ⟨rfl, hb⟩; have n0_ := Aside0.mk (below_step (by repeat (first | (with_reducible first | exact HB.out | apply below_alloc | apply pw_below_drewN | apply below_drew1) | exact HB.out)) hb); clear HB; have HB := n0_; clear n0_; (try clear hb); (try clear hb2); (try clear hk); (try clear hi))); try go_wp2_with (first | (go_at_call 20; (with_reducible refine (cohousinglaw29_head.calls k  t434 _ A5.out).mono ?_); rintro e w7 ⟨rfl, hb⟩; have n0_ := Aside0.mk (below_step (by repeat (first | (with_reducible first | exact HB.out | apply below_alloc | apply pw_below_drewN | apply below_drew1) | exact HB.out)) hb); clear HB; have HB := n0_; clear n0_; (try clear hb); (try clear hb2); (try clear hk); (try clear hi))))
  go_ret
  exact ⟨by first | rfl | (simp [errW_none, errW_some] <;> rfl) | (simp [*, errW_none, errW_some] <;> rfl), by repeat (first | (with_reducible first | exact HB.out | apply below_alloc | apply pw_below_drewN | apply below_drew1) | exact HB.out)⟩
 ·rw [if_neg c6] at H
  have c6b0 : decide (20 < (l3.length : Int)) = false := decide_eq_false c6
  have c6b1 : decide (20 < l3.length) = false := decide_eq_false (by omega)
  clear c6
  replace H := Option.bind_eq_some_iff.mp H
  obtain ⟨⟨t435, t436, t437⟩, A80, H⟩ := H
  replace H : (if t437 = 0 then (cohousinglaw29_ChargesSum.l0 k a0 l3 t434 t435 t436 t436 0) else (if t434 = true then (if (t435.length : Int) = 0 then (some (t436 == 0)) else (some false)) else (some false))) = some r := H
  have A8 := Aside0.mk A80
  clear A80
  by_cases c9 : t437 = 0
  ·rw [if_pos c9] at H
   have c9b0 : (t437 == 0) = true := beq_iff_eq.mpr c9
   have c9b1 : (t437 != 0) = false := bne_eq_false_iff_eq.mpr c9
   clear c9
   have H' := Aside0.mk H
   clear H
   go_enter Try.func6, Try.ntmps6
   go_wp2_with (first | (go_at_call 20; (with_reducible refine (cohousinglaw29_head.calls k  t434 _ A5.out).mono ?_); rintro e w10 ⟨rfl, hb⟩; have n0_ := Aside0.mk (below_step (by repeat (first | (with_reducible first | exact HB.out | apply below_alloc | apply pw_below_drewN | apply below_drew1) | exact HB.out)) hb); clear HB; have HB := n0_; clear n0_; (try clear hb); (try clear hb2); (try clear hk); (try clear hi)) | (go_at_call 25; (with_reducible refine (charges_Share.calls a0 a1 _ _ l2 _ _ l3 t435 t436 t437 _ ?side1 ?side2 ?side3 ?side4 A8.out).mono ?_); (case side1 => repeat (first | exact (Kd.C_below HR2.out HB.out) | (with_reducible refine Kd.C_alloc ?_ _) | (with_reducible refine Kd.C_drewN ?_ _) | (with_reducible refine Kd.C_drew ?_))); (case side2 => exact HC2.out); (case side3 => repeat (first | exact (Kd.C_below HR3.out HB.out) | (with_reducible refine Kd.C_alloc ?_ _) | (with_reducible refine Kd.C_drewN ?_ _) | (with_reducible refine Kd.C_drew ?_))); (case side4 => exact HC3.out); rintro e w11 ⟨v438, rfl, ho0, hb⟩; have n0_ := Aside0.mk (Kd.R_lower ho0 (below_size (by repeat (first | (with_reducible first | exact HB.out | apply below_alloc | apply pw_below_drewN | apply below_drew1) | exact HB.out)))); have n1_ := Aside0.mk (below_step (by repeat (first | (with_reducible first | exact HB.out | apply below_alloc | apply pw_below_drewN | apply below_drew1) | exact HB.out)) hb); clear HB; have HO439 := n0_; have HB := n1_; clear n0_ n1_; (try clear hb); (try clear hb2); (try clear hk); (try clear hi); (try clear ho0)))
   repeat (go_quiet (first | (go_at_call 20; (with_reducible refine (cohousinglaw29_head.calls k  t434 _ A5.out).mono ?_); rintro e w10 ⟨rfl, hb⟩; have n0_ := Aside0.mk (below_step (by repeat (first | (with_reducible first | exact HB.out | apply below_alloc | apply pw_below_drewN | apply below_drew1) | exact HB.out)) hb); clear HB; have HB := n0_; clear n0_; (try clear hb); (try clear hb2); (try clear hk); (try clear hi)) | (go_at_call 25; (with_reducible refine (charges_Share.calls a0 a1 _ _ l2 _ _ l3 t435 t436 t437 _ ?side1 ?side2 ?side3 ?side4 A8.out).mono ?_); (case side1 => repeat (first | exact (Kd.C_below HR2.out HB.out) | (with_reducible refine Kd.C_alloc ?_ _) | (with_reducible refine Kd.C_drewN ?_ _) | (with_reducible refine Kd.C_drew ?_))); (case side2 => exact HC2.out); (case side3 => repeat (first | exact (Kd.C_below HR3.out HB.out) | (with_reducible refine Kd.C_alloc ?_ _) | (with_reducible refine Kd.C_drewN ?_ _) | (with_reducible refine Kd.C_drew ?_))); (case side4 => exact HC3.out); rintro e w11 ⟨v438, rfl, ho0, hb⟩; have n0_ := Aside0.mk (Kd.R_lower ho0 (below_size (by repeat (first | (with_reducible first | exact HB.out | apply below_alloc | apply pw_below_drewN | apply below_drew1) | exact HB.out)))); have n1_ := Aside0.mk (below_step (by repeat (first | (with_reducible first | exact HB.out | apply below_alloc | apply pw_below_drewN | apply below_drew1) | exact HB.out)) hb); clear HB; have HO439 := n0_; have HB := n1_; clear n0_ n1_; (try clear hb); (try clear hb2); (try clear hk); (try clear hi); (try clear ho0))); try go_wp2_with (first | (go_at_call 20; (with_reducible refine (cohousinglaw29_head.calls k  t434 _ A5.out).mono ?_); rintro e w10 ⟨rfl, hb⟩; have n0_ := Aside0.mk (below_step (by repeat (first | (with_reducible first | exact HB.out | apply below_alloc | apply pw_below_drewN | apply below_drew1) | exact HB.out)) hb); clear HB; have HB := n0_; clear n0_; (try clear hb); (try clear hb2); (try clear hk); (try clear hi)) | (go_at_call 25; (with_reducible refine (charges_Share.calls a0 a1 _ _ l2 _ _ l3 t435 t436 t437 _ ?side1 ?side2 ?side3 ?side4 A8.out).mono ?_); (case side1 => repeat (first | exact (Kd.C_below HR2.out HB.out) | (with_reducible refine Kd.C_alloc ?_ _) | (with_reducible refine Kd.C_drewN ?_ _) | (with_reducible refine Kd.C_drew ?_))); (case side2 => exact HC2.out); (case side3 => repeat (first | exact (Kd.C_below HR3.out HB.out) | (with_reducible refine Kd.C_alloc ?_ _) | (with_reducible refine Kd.C_drewN ?_ _) | (with_reducible refine Kd.C_drew ?_))); (case side4 => exact HC3.out); rintro e w11 ⟨v438, rfl, ho0, hb⟩; have n0_ := Aside0.mk (Kd.R_lower ho0 (below_size (by repeat (first | (with_reducible first | exact HB.out | apply below_alloc | apply pw_below_drewN | apply below_drew1) | exact HB.out)))); have n1_ := Aside0.mk (below_step (by repeat (first | (with_reducible first | exact HB.out | apply below_alloc | apply pw_below_drewN | apply below_drew1) | exact HB.out)) hb); clear HB; have HO439 := n0_; have HB := n1_; clear n0_ n1_; (try clear hb); (try clear hb2); (try clear hk); (try clear hi); (try clear ho0))))
   go_loopg [13, 14] k (fun kq v13 v14 w' => ∃ (x13_1 : Int) (x14_1 : Int), v13 = .int .i64 x13_1 ∧ v14 = .int .i64 x14_1 ∧ Aside0 (cohousinglaw29_ChargesSum.l0 kq a0 l3 t434 t435 t436 x13_1 x14_1 = some r) ∧ Aside0 (kq ≤ k) ∧ Aside0 (Kd.R k43 43 w' w.heap.size (fun _ => True) v438 t435) ∧ Aside0 (Below w.heap.size w w'))
   case atStart => exact ⟨(t436), (0), (by first | rfl | (simp; done) | (simp [*]; done)), (by first | rfl | (simp; done) | (simp [*]; done)), H', ⟨Nat.le_refl _⟩, ⟨by (with_reducible repeat (first | apply Kd.R_alloc | apply Kd.R_drewN | apply Kd.R_drew)); exact HO439.out⟩, ⟨by repeat (first | (with_reducible first | exact HB.out | apply below_alloc | apply pw_below_drewN | apply below_drew1) | exact HB.out)⟩⟩
   case round =>
    clear H'
    try clear c2
    try clear p2
    try clear c3
    try clear c6
    try clear c6b0
    try clear c6b1
    try clear c9
    try clear c9b0
    try clear c9b1
    obtain ⟨x13_1, x14_1, rfl, rfl, HA, HK1, HO_10, HB⟩ := hrel
    cases gk with
    | zero => exact absurd HA.out (by simp [cohousinglaw29_ChargesSum.l0])
    | succ k1 =>
     have H := HA.out
     clear HA
     simp only [cohousinglaw29_ChargesSum.l0] at H
     by_cases c12 : x14_1 < (t435.length : Int)
     ·rw [if_pos c12] at H
      have c12b0 : decide (x14_1 < (t435.length : Int)) = true := decide_eq_true c12
      clear c12
      by_cases c13 : 0 ≤ x14_1
      ·rw [if_pos c13] at H
       have c13b0 : decide (0 ≤ x14_1) = true := decide_eq_true c13
       clear c13
       by_cases c14 : ((rd_T43 t435 x14_1).f1) < ((rd_T43 t435 x14_1).f2.f0)
       ·rw [if_pos c14] at H
        have c14b0 : decide (((rd_T43 t435 x14_1).f1) < ((rd_T43 t435 x14_1).f2.f0)) = true := decide_eq_true c14
        clear c14
        obtain rfl := Option.some.inj H
        obtain ⟨Ao15, co15, eo15⟩ := Kd.R_slice HO_10.out
        subst eo15
        have p440 : 0 ≤ (x14_1 : Int) := of_decide_eq_true (by first | (with_reducible assumption) | assumption)
        have q440 : x14_1 < (t435.length : Int) := of_decide_eq_true (by first | (with_reducible assumption) | assumption)
        obtain ⟨ad440, e440, hx440_0, hx440_1, hx440_2, hx440_3, hx440_4⟩ := at_T43 (Kd.R_reads' HO_10.out).2.2 x14_1 p440 q440
        cases e440
        replace p440 := eq_true p440
        replace q440 := eq_true q440
        have p441 : 0 ≤ (x14_1 : Int) := of_decide_eq_true (by first | (with_reducible assumption) | assumption)
        have q441 : x14_1 < (t435.length : Int) := of_decide_eq_true (by first | (with_reducible assumption) | assumption)
        obtain ⟨ad441, e441, hx441_0, hx441_1, hx441_2, hx441_3, hx441_4⟩ := at_T43 (Kd.R_reads' HO_10.out).2.2 x14_1 p441 q441
        obtain rfl : ad440 = ad441 := (by injection e441)
        replace p441 := eq_true p441
        replace q441 := eq_true q441
        go_wp2
        repeat (go_quiet (fail); try go_wp2)
        go_ret
        exact ⟨by first | rfl | (simp [errW_none, errW_some] <;> rfl) | (simp [*, errW_none, errW_some] <;> rfl), by repeat (first | (with_reducible first | exact HB.out | apply below_alloc | apply pw_below_drewN | apply below_drew1) | exact HB.out)⟩
       ·rw [if_neg c14] at H
        have c14b0 : decide (((rd_T43 t435 x14_1).f1) < ((rd_T43 t435 x14_1).f2.f0)) = false := decide_eq_false c14
        clear c14
        by_cases c16 : ((rd_T43 t435 x14_1).f1) > ((rd_T43 t435 x14_1).f2.f1)
        ·rw [if_pos c16] at H
         have c16b0 : decide (((rd_T43 t435 x14_1).f2.f1) < ((rd_T43 t435 x14_1).f1)) = true := decide_eq_true c16
         clear c16
         obtain rfl := Option.some.inj H
         obtain ⟨Ao17, co17, eo17⟩ := Kd.R_slice HO_10.out
         subst eo17
         have p440 : 0 ≤ (x14_1 : Int) := of_decide_eq_true (by first | (with_reducible assumption) | assumption)
         have q440 : x14_1 < (t435.length : Int) := of_decide_eq_true (by first | (with_reducible assumption) | assumption)
         obtain ⟨ad440, e440, hx440_0, hx440_1, hx440_2, hx440_3, hx440_4⟩ := at_T43 (Kd.R_reads' HO_10.out).2.2 x14_1 p440 q440
         cases e440
         replace p440 := eq_true p440
         replace q440 := eq_true q440
         have p441 : 0 ≤ (x14_1 : Int) := of_decide_eq_true (by first | (with_reducible assumption) | assumption)
         have q441 : x14_1 < (t435.length : Int) := of_decide_eq_true (by first | (with_reducible assumption) | assumption)
         obtain ⟨ad441, e441, hx441_0, hx441_1, hx441_2, hx441_3, hx441_4⟩ := at_T43 (Kd.R_reads' HO_10.out).2.2 x14_1 p441 q441
         obtain rfl : ad440 = ad441 := (by injection e441)
         replace p441 := eq_true p441
         replace q441 := eq_true q441
         have p442 : 0 ≤ (x14_1 : Int) := of_decide_eq_true (by first | (with_reducible assumption) | assumption)
         have q442 : x14_1 < (t435.length : Int) := of_decide_eq_true (by first | (with_reducible assumption) | assumption)
         obtain ⟨ad442, e442, hx442_0, hx442_1, hx442_2, hx442_3, hx442_4⟩ := at_T43 (Kd.R_reads' HO_10.out).2.2 x14_1 p442 q442
         obtain rfl : ad440 = ad442 := (by injection e442)
         replace p442 := eq_true p442
         replace q442 := eq_true q442
         have p443 : 0 ≤ (x14_1 : Int) := of_decide_eq_true (by first | (with_reducible assumption) | assumption)
         have q443 : x14_1 < (t435.length : Int) := of_decide_eq_true (by first | (with_reducible assumption) | assumption)
         obtain ⟨ad443, e443, hx443_0, hx443_1, hx443_2, hx443_3, hx443_4⟩ := at_T43 (Kd.R_reads' HO_10.out).2.2 x14_1 p443 q443
         obtain rfl : ad440 = ad443 := (by injection e443)
         replace p443 := eq_true p443
         replace q443 := eq_true q443
         go_wp2
         repeat (go_quiet (fail); try go_wp2)
         go_ret
         exact ⟨by first | rfl | (simp [errW_none, errW_some] <;> rfl) | (simp [*, errW_none, errW_some] <;> rfl), by repeat (first | (with_reducible first | exact HB.out | apply below_alloc | apply pw_below_drewN | apply below_drew1) | exact HB.out)⟩
        ·rw [if_neg c16] at H
         have c16b0 : decide (((rd_T43 t435 x14_1).f2.f1) < ((rd_T43 t435 x14_1).f1)) = false := decide_eq_false c16
         clear c16
         by_cases c18 : (((rd_T43 t435 x14_1).f3) != (((rd_T43 t435 x14_1).f2.f0) == ((rd_T43 t435 x14_1).f2.f1))) = true
         ·rw [if_pos c18] at H
          have c18b0 : (((rd_T43 t435 x14_1).f3) != (((rd_T43 t435 x14_1).f2.f0) == ((rd_T43 t435 x14_1).f2.f1))) = true := c18
          (try (have c18b1 : decide (((rd_T43 t435 x14_1).f3) = (((rd_T43 t435 x14_1).f2.f0) == ((rd_T43 t435 x14_1).f2.f1))) = false := by simpa using c18))
          (try (have c18b2 : (((rd_T43 t435 x14_1).f3) == (((rd_T43 t435 x14_1).f2.f0) == ((rd_T43 t435 x14_1).f2.f1))) = false := by simpa using c18))
          (try (have c18b3 : ¬ (((rd_T43 t435 x14_1).f3) = (((rd_T43 t435 x14_1).f2.f0) == ((rd_T43 t435 x14_1).f2.f1))) := by simpa using c18))
          clear c18
          obtain rfl := Option.some.inj H
          obtain ⟨Ao19, co19, eo19⟩ := Kd.R_slice HO_10.out
          subst eo19
          have p440 : 0 ≤ (x14_1 : Int) := of_decide_eq_true (by first | (with_reducible assumption) | assumption)
          have q440 : x14_1 < (t435.length : Int) := of_decide_eq_true (by first | (with_reducible assumption) | assumption)
          obtain ⟨ad440, e440, hx440_0, hx440_1, hx440_2, hx440_3, hx440_4⟩ := at_T43 (Kd.R_reads' HO_10.out).2.2 x14_1 p440 q440
          cases e440
          replace p440 := eq_true p440
          replace q440 := eq_true q440
          have p441 : 0 ≤ (x14_1 : Int) := of_decide_eq_true (by first | (with_reducible assumption) | assumption)
          have q441 : x14_1 < (t435.length : Int) := of_decide_eq_true (by first | (with_reducible assumption) | assumption)
          obtain ⟨ad441, e441, hx441_0, hx441_1, hx441_2, hx441_3, hx441_4⟩ := at_T43 (Kd.R_reads' HO_10.out).2.2 x14_1 p441 q441
          obtain rfl : ad440 = ad441 := (by injection e441)
          replace p441 := eq_true p441
          replace q441 := eq_true q441
          have p442 : 0 ≤ (x14_1 : Int) := of_decide_eq_true (by first | (with_reducible assumption) | assumption)
          have q442 : x14_1 < (t435.length : Int) := of_decide_eq_true (by first | (with_reducible assumption) | assumption)
          obtain ⟨ad442, e442, hx442_0, hx442_1, hx442_2, hx442_3, hx442_4⟩ := at_T43 (Kd.R_reads' HO_10.out).2.2 x14_1 p442 q442
          obtain rfl : ad440 = ad442 := (by injection e442)
          replace p442 := eq_true p442
          replace q442 := eq_true q442
          have p443 : 0 ≤ (x14_1 : Int) := of_decide_eq_true (by first | (with_reducible assumption) | assumption)
          have q443 : x14_1 < (t435.length : Int) := of_decide_eq_true (by first | (with_reducible assumption) | assumption)
          obtain ⟨ad443, e443, hx443_0, hx443_1, hx443_2, hx443_3, hx443_4⟩ := at_T43 (Kd.R_reads' HO_10.out).2.2 x14_1 p443 q443
          obtain rfl : ad440 = ad443 := (by injection e443)
          replace p443 := eq_true p443
          replace q443 := eq_true q443
          have p444 : 0 ≤ (x14_1 : Int) := of_decide_eq_true (by first | (with_reducible assumption) | assumption)
          have q444 : x14_1 < (t435.length : Int) := of_decide_eq_true (by first | (with_reducible assumption) | assumption)
          obtain ⟨ad444, e444, hx444_0, hx444_1, hx444_2, hx444_3, hx444_4⟩ := at_T43 (Kd.R_reads' HO_10.out).2.2 x14_1 p444 q444
          obtain rfl : ad440 = ad444 := (by injection e444)
          replace p444 := eq_true p444
          replace q444 := eq_true q444
          have p445 : 0 ≤ (x14_1 : Int) := of_decide_eq_true (by first | (with_reducible assumption) | assumption)
          have q445 : x14_1 < (t435.length : Int) := of_decide_eq_true (by first | (with_reducible assumption) | assumption)
          obtain ⟨ad445, e445, hx445_0, hx445_1, hx445_2, hx445_3, hx445_4⟩ := at_T43 (Kd.R_reads' HO_10.out).2.2 x14_1 p445 q445
          obtain rfl : ad440 = ad445 := (by injection e445)
          replace p445 := eq_true p445
          replace q445 := eq_true q445
          have p446 : 0 ≤ (x14_1 : Int) := of_decide_eq_true (by first | (with_reducible assumption) | assumption)
          have q446 : x14_1 < (t435.length : Int) := of_decide_eq_true (by first | (with_reducible assumption) | assumption)
          obtain ⟨ad446, e446, hx446_0, hx446_1, hx446_2, hx446_3, hx446_4⟩ := at_T43 (Kd.R_reads' HO_10.out).2.2 x14_1 p446 q446
          obtain rfl : ad440 = ad446 := (by injection e446)
          replace p446 := eq_true p446
          replace q446 := eq_true q446
          go_wp2
          repeat (go_quiet (fail); try go_wp2)
          go_ret
          exact ⟨by first | rfl | (simp [errW_none, errW_some] <;> rfl) | (simp [*, errW_none, errW_some] <;> rfl), by repeat (first | (with_reducible first | exact HB.out | apply below_alloc | apply pw_below_drewN | apply below_drew1) | exact HB.out)⟩
         ·rw [if_neg c18] at H
          have c18b0 : (((rd_T43 t435 x14_1).f3) != (((rd_T43 t435 x14_1).f2.f0) == ((rd_T43 t435 x14_1).f2.f1))) = false := by simpa using c18
          (try (have c18b1 : decide (((rd_T43 t435 x14_1).f3) = (((rd_T43 t435 x14_1).f2.f0) == ((rd_T43 t435 x14_1).f2.f1))) = true := by simpa using c18))
          (try (have c18b2 : (((rd_T43 t435 x14_1).f3) == (((rd_T43 t435 x14_1).f2.f0) == ((rd_T43 t435 x14_1).f2.f1))) = true := by simpa using c18))
          clear c18
          have H' := Aside0.mk H
          clear H
          obtain ⟨Ao20, co20, eo20⟩ := Kd.R_slice HO_10.out
          subst eo20
          have p440 : 0 ≤ (x14_1 : Int) := of_decide_eq_true (by first | (with_reducible assumption) | assumption)
          have q440 : x14_1 < (t435.length : Int) := of_decide_eq_true (by first | (with_reducible assumption) | assumption)
          obtain ⟨ad440, e440, hx440_0, hx440_1, hx440_2, hx440_3, hx440_4⟩ := at_T43 (Kd.R_reads' HO_10.out).2.2 x14_1 p440 q440
          cases e440
          replace p440 := eq_true p440
          replace q440 := eq_true q440
          have p441 : 0 ≤ (x14_1 : Int) := of_decide_eq_true (by first | (with_reducible assumption) | assumption)
          have q441 : x14_1 < (t435.length : Int) := of_decide_eq_true (by first | (with_reducible assumption) | assumption)
          obtain ⟨ad441, e441, hx441_0, hx441_1, hx441_2, hx441_3, hx441_4⟩ := at_T43 (Kd.R_reads' HO_10.out).2.2 x14_1 p441 q441
          obtain rfl : ad440 = ad441 := (by injection e441)
          replace p441 := eq_true p441
          replace q441 := eq_true q441
          have p442 : 0 ≤ (x14_1 : Int) := of_decide_eq_true (by first | (with_reducible assumption) | assumption)
          have q442 : x14_1 < (t435.length : Int) := of_decide_eq_true (by first | (with_reducible assumption) | assumption)
          obtain ⟨ad442, e442, hx442_0, hx442_1, hx442_2, hx442_3, hx442_4⟩ := at_T43 (Kd.R_reads' HO_10.out).2.2 x14_1 p442 q442
          obtain rfl : ad440 = ad442 := (by injection e442)
          replace p442 := eq_true p442
          replace q442 := eq_true q442
          have p443 : 0 ≤ (x14_1 : Int) := of_decide_eq_true (by first | (with_reducible assumption) | assumption)
          have q443 : x14_1 < (t435.length : Int) := of_decide_eq_true (by first | (with_reducible assumption) | assumption)
          obtain ⟨ad443, e443, hx443_0, hx443_1, hx443_2, hx443_3, hx443_4⟩ := at_T43 (Kd.R_reads' HO_10.out).2.2 x14_1 p443 q443
          obtain rfl : ad440 = ad443 := (by injection e443)
          replace p443 := eq_true p443
          replace q443 := eq_true q443
          have p444 : 0 ≤ (x14_1 : Int) := of_decide_eq_true (by first | (with_reducible assumption) | assumption)
          have q444 : x14_1 < (t435.length : Int) := of_decide_eq_true (by first | (with_reducible assumption) | assumption)
          obtain ⟨ad444, e444, hx444_0, hx444_1, hx444_2, hx444_3, hx444_4⟩ := at_T43 (Kd.R_reads' HO_10.out).2.2 x14_1 p444 q444
          obtain rfl : ad440 = ad444 := (by injection e444)
          replace p444 := eq_true p444
          replace q444 := eq_true q444
          have p445 : 0 ≤ (x14_1 : Int) := of_decide_eq_true (by first | (with_reducible assumption) | assumption)
          have q445 : x14_1 < (t435.length : Int) := of_decide_eq_true (by first | (with_reducible assumption) | assumption)
          obtain ⟨ad445, e445, hx445_0, hx445_1, hx445_2, hx445_3, hx445_4⟩ := at_T43 (Kd.R_reads' HO_10.out).2.2 x14_1 p445 q445
          obtain rfl : ad440 = ad445 := (by injection e445)
          replace p445 := eq_true p445
          replace q445 := eq_true q445
          have p446 : 0 ≤ (x14_1 : Int) := of_decide_eq_true (by first | (with_reducible assumption) | assumption)
          have q446 : x14_1 < (t435.length : Int) := of_decide_eq_true (by first | (with_reducible assumption) | assumption)
          obtain ⟨ad446, e446, hx446_0, hx446_1, hx446_2, hx446_3, hx446_4⟩ := at_T43 (Kd.R_reads' HO_10.out).2.2 x14_1 p446 q446
          obtain rfl : ad440 = ad446 := (by injection e446)
          replace p446 := eq_true p446
          replace q446 := eq_true q446
          have p447 : 0 ≤ (x14_1 : Int) := of_decide_eq_true (by first | (with_reducible assumption) | assumption)
          have q447 : x14_1 < (t435.length : Int) := of_decide_eq_true (by first | (with_reducible assumption) | assumption)
          obtain ⟨ad447, e447, hx447_0, hx447_1, hx447_2, hx447_3, hx447_4⟩ := at_T43 (Kd.R_reads' HO_10.out).2.2 x14_1 p447 q447
          obtain rfl : ad440 = ad447 := (by injection e447)
          replace p447 := eq_true p447
          replace q447 := eq_true q447
          go_wp2
          repeat (go_quiet (fail); try go_wp2)
          go_roundg k1
          case measure => have := HK1.out; omega
          case rel => exact ⟨(wrap64 (x13_1 + ((rd_T43 t435 x14_1).f1))), (wrap64 (x14_1 + 1)), (by first | rfl | (simp; done) | (simp [*]; done)), (by first | rfl | (simp; done) | (simp [*]; done)), H', ⟨by have := HK1.out; omega⟩, ⟨by (with_reducible repeat (first | apply Kd.R_alloc | apply Kd.R_drewN | apply Kd.R_drew)); exact HO_10.out⟩, ⟨by repeat (first | (with_reducible first | exact HB.out | apply below_alloc | apply pw_below_drewN | apply below_drew1) | exact HB.out)⟩⟩
      ·rw [if_neg c13] at H
       exact absurd H (by simp)
     ·rw [if_neg c12] at H
      have c12b0 : decide (x14_1 < (t435.length : Int)) = false := decide_eq_false c12
      clear c12
      by_cases c21 : t434 = true
      ·subst c21
       have H1 : (if (t435.length : Int) = (l3.length : Int) then (if x13_1 = a0 then (some (decide ((wrap64 ((-2) * t436)) ≤ (t435.length : Int)))) else (some false)) else (some false)) = some r := by rw [if_pos rfl] at H; exact H
       clear H
       have H := H1
       clear H1
       by_cases c22 : (t435.length : Int) = (l3.length : Int)
       ·rw [if_pos c22] at H
        have c22b0 : ((t435.length : Int) == (l3.length : Int)) = true := beq_iff_eq.mpr c22
        have c22b1 : ((t435.length : Int) != (l3.length : Int)) = false := bne_eq_false_iff_eq.mpr c22
        have c22b2 : (t435.length == l3.length) = true := by first | simpa using c22 | (simp at c22 ⊢; omega)
        clear c22
        by_cases c23 : x13_1 = a0
        ·rw [if_pos c23] at H
         have c23b0 : (x13_1 == a0) = true := beq_iff_eq.mpr c23
         have c23b1 : (x13_1 != a0) = false := bne_eq_false_iff_eq.mpr c23
         clear c23
         obtain rfl := Option.some.inj H
         obtain ⟨Ao24, co24, eo24⟩ := Kd.R_slice HO_10.out
         subst eo24
         go_wp2
         repeat (go_quiet (fail); try go_wp2)
         go_ret
         exact ⟨by first | rfl | (simp [errW_none, errW_some] <;> rfl) | (simp [*, errW_none, errW_some] <;> rfl), by repeat (first | (with_reducible first | exact HB.out | apply below_alloc | apply pw_below_drewN | apply below_drew1) | exact HB.out)⟩
        ·rw [if_neg c23] at H
         have c23b0 : (x13_1 == a0) = false := beq_eq_false_iff_ne.mpr c23
         have c23b1 : (x13_1 != a0) = true := bne_iff_ne.mpr c23
         obtain rfl := Option.some.inj H
         obtain ⟨Ao25, co25, eo25⟩ := Kd.R_slice HO_10.out
         subst eo25
         go_wp2
         repeat (go_quiet (fail); try go_wp2)
         go_ret
         exact ⟨by first | rfl | (simp [errW_none, errW_some] <;> rfl) | (simp [*, errW_none, errW_some] <;> rfl), by repeat (first | (with_reducible first | exact HB.out | apply below_alloc | apply pw_below_drewN | apply below_drew1) | exact HB.out)⟩
       ·rw [if_neg c22] at H
        have c22b0 : ((t435.length : Int) == (l3.length : Int)) = false := beq_eq_false_iff_ne.mpr c22
        have c22b1 : ((t435.length : Int) != (l3.length : Int)) = true := bne_iff_ne.mpr c22
        have c22b2 : (t435.length == l3.length) = false := by first | simpa using c22 | (simp at c22 ⊢; omega)
        obtain rfl := Option.some.inj H
        obtain ⟨Ao26, co26, eo26⟩ := Kd.R_slice HO_10.out
        subst eo26
        go_wp2
        repeat (go_quiet (fail); try go_wp2)
        go_ret
        exact ⟨by first | rfl | (simp [errW_none, errW_some] <;> rfl) | (simp [*, errW_none, errW_some] <;> rfl), by repeat (first | (with_reducible first | exact HB.out | apply below_alloc | apply pw_below_drewN | apply below_drew1) | exact HB.out)⟩
      ·replace c21 := Bool.eq_false_iff.mpr c21
       subst c21
       have H1 : (some false) = some r := by rw [if_neg (show ¬ (false = true) by decide)] at H; exact H
       clear H
       have H := H1
       clear H1
       obtain rfl := Option.some.inj H
       obtain ⟨Ao27, co27, eo27⟩ := Kd.R_slice HO_10.out
       subst eo27
       go_wp2
       repeat (go_quiet (fail); try go_wp2)
       go_ret
       exact ⟨by first | rfl | (simp [errW_none, errW_some] <;> rfl) | (simp [*, errW_none, errW_some] <;> rfl), by repeat (first | (with_reducible first | exact HB.out | apply below_alloc | apply pw_below_drewN | apply below_drew1) | exact HB.out)⟩
  ·rw [if_neg c9] at H
   have c9b0 : (t437 == 0) = false := beq_eq_false_iff_ne.mpr c9
   have c9b1 : (t437 != 0) = true := bne_iff_ne.mpr c9
   by_cases c28 : t434 = true
   ·subst c28
    have H1 : (if (t435.length : Int) = 0 then (some (t436 == 0)) else (some false)) = some r := by rw [if_pos rfl] at H; exact H
    clear H
    have H := H1
    clear H1
    by_cases c29 : (t435.length : Int) = 0
    ·rw [if_pos c29] at H
     have c29b0 : ((t435.length : Int) == 0) = true := beq_iff_eq.mpr c29
     have c29b1 : ((t435.length : Int) != 0) = false := bne_eq_false_iff_eq.mpr c29
     clear c29
     obtain rfl := Option.some.inj H
     go_enter Try.func6, Try.ntmps6
     go_wp2_with (first | (go_at_call 20; (with_reducible refine (cohousinglaw29_head.calls k  true _ A5.out).mono ?_); rintro e w30 ⟨rfl, hb⟩; have n0_ := Aside0.mk (below_step (by repeat (first | (with_reducible first | exact HB.out | apply below_alloc | apply pw_below_drewN | apply below_drew1) | exact HB.out)) hb); clear HB; have HB := n0_; clear n0_; (try clear hb); (try clear hb2); (try clear hk); (try clear hi)) | (go_at_call 25; (with_reducible refine (charges_Share.calls a0 a1 _ _ l2 _ _ l3 t435 t436 t437 _ ?side1 ?side2 ?side3 ?side4 A8.out).mono ?_); (case side1 => repeat (first | exact (Kd.C_below HR2.out HB.out) | (with_reducible refine Kd.C_alloc ?_ _) | (with_reducible refine Kd.C_drewN ?_ _) | (with_reducible refine Kd.C_drew ?_))); (case side2 => exact HC2.out); (case side3 => repeat (first | exact (Kd.C_below HR3.out HB.out) | (with_reducible refine Kd.C_alloc ?_ _) | (with_reducible refine Kd.C_drewN ?_ _) | (with_reducible refine Kd.C_drew ?_))); (case side4 => exact HC3.out); rintro e w31 ⟨v438, rfl, ho0, hb⟩; have n0_ := Aside0.mk (Kd.R_lower ho0 (below_size (by repeat (first | (with_reducible first | exact HB.out | apply below_alloc | apply pw_below_drewN | apply below_drew1) | exact HB.out)))); have n1_ := Aside0.mk (below_step (by repeat (first | (with_reducible first | exact HB.out | apply below_alloc | apply pw_below_drewN | apply below_drew1) | exact HB.out)) hb); clear HB; have HO439 := n0_; have HB := n1_; clear n0_ n1_; (try clear hb); (try clear hb2); (try clear hk); (try clear hi); (try clear ho0); obtain ⟨Ao32, co32, eo32⟩ := Kd.R_slice HO439.out; subst eo32))
     repeat (go_quiet (first | (go_at_call 20; (with_reducible refine (cohousinglaw29_head.calls k  true _ A5.out).mono ?_); rintro e w30 ⟨rfl, hb⟩; have n0_ := Aside0.mk (below_step (by repeat (first | (with_reducible first | exact HB.out | apply below_alloc | apply pw_below_drewN | apply below_drew1) | exact HB.out)) hb); clear HB; have HB := n0_; clear n0_; (try clear hb); (try clear hb2); (try clear hk); (try clear hi)) | (go_at_call 25; (with_reducible refine (charges_Share.calls a0 a1 _ _ l2 _ _ l3 t435 t436 t437 _ ?side1 ?side2 ?side3 ?side4 A8.out).mono ?_); (case side1 => repeat (first | exact (Kd.C_below HR2.out HB.out) | (with_reducible refine Kd.C_alloc ?_ _) | (with_reducible refine Kd.C_drewN ?_ _) | (with_reducible refine Kd.C_drew ?_))); (case side2 => exact HC2.out); (case side3 => repeat (first | exact (Kd.C_below HR3.out HB.out) | (with_reducible refine Kd.C_alloc ?_ _) | (with_reducible refine Kd.C_drewN ?_ _) | (with_reducible refine Kd.C_drew ?_))); (case side4 => exact HC3.out); rintro e w31 ⟨v438, rfl, ho0, hb⟩; have n0_ := Aside0.mk (Kd.R_lower ho0 (below_size (by repeat (first | (with_reducible first | exact HB.out | apply below_alloc | apply pw_below_drewN | apply below_drew1) | exact HB.out)))); have n1_ := Aside0.mk (below_step (by repeat (first | (with_reducible first | exact HB.out | apply below_alloc | apply pw_below_drewN | apply below_drew1) | exact HB.out)) hb); clear HB; have HO439 := n0_; have HB := n1_; clear n0_ n1_; (try clear hb); (try clear hb2); (try clear hk); (try clear hi); (try clear ho0); obtain ⟨Ao32, co32, eo32⟩ := Kd.R_slice HO439.out; subst eo32)); try go_wp2_with (first | (go_at_call 20; (with_reducible refine (cohousinglaw29_head.calls k  true _ A5.out).mono ?_); rintro e w30 ⟨rfl, hb⟩; have n0_ := Aside0.mk (below_step (by repeat (first | (with_reducible first | exact HB.out | apply below_alloc | apply pw_below_drewN | apply below_drew1) | exact HB.out)) hb); clear HB; have HB := n0_; clear n0_; (try clear hb); (try clear hb2); (try clear hk); (try clear hi)) | (go_at_call 25; (with_reducible refine (charges_Share.calls a0 a1 _ _ l2 _ _ l3 t435 t436 t437 _ ?side1 ?side2 ?side3 ?side4 A8.out).mono ?_); (case side1 => repeat (first | exact (Kd.C_below HR2.out HB.out) | (with_reducible refine Kd.C_alloc ?_ _) | (with_reducible refine Kd.C_drewN ?_ _) | (with_reducible refine Kd.C_drew ?_))); (case side2 => exact HC2.out); (case side3 => repeat (first | exact (Kd.C_below HR3.out HB.out) | (with_reducible refine Kd.C_alloc ?_ _) | (with_reducible refine Kd.C_drewN ?_ _) | (with_reducible refine Kd.C_drew ?_))); (case side4 => exact HC3.out); rintro e w31 ⟨v438, rfl, ho0, hb⟩; have n0_ := Aside0.mk (Kd.R_lower ho0 (below_size (by repeat (first | (with_reducible first | exact HB.out | apply below_alloc | apply pw_below_drewN | apply below_drew1) | exact HB.out)))); have n1_ := Aside0.mk (below_step (by repeat (first | (with_reducible first | exact HB.out | apply below_alloc | apply pw_below_drewN | apply below_drew1) | exact HB.out)) hb); clear HB; have HO439 := n0_; have HB := n1_; clear n0_ n1_; (try clear hb); (try clear hb2); (try clear hk); (try clear hi); (try clear ho0); obtain ⟨Ao32, co32, eo32⟩ := Kd.R_slice HO439.out; subst eo32)))
     go_ret
     exact ⟨by first | rfl | (simp [errW_none, errW_some] <;> rfl) | (simp [*, errW_none, errW_some] <;> rfl), by repeat (first | (with_reducible first | exact HB.out | apply below_alloc | apply pw_below_drewN | apply below_drew1) | exact HB.out)⟩
    ·rw [if_neg c29] at H
     have c29b0 : ((t435.length : Int) == 0) = false := beq_eq_false_iff_ne.mpr c29
     have c29b1 : ((t435.length : Int) != 0) = true := bne_iff_ne.mpr c29
     have c29b2 : ¬ (t435 = []) := fun h_ => c29 (by rw [h_]; rfl)
     obtain rfl := Option.some.inj H
     go_enter Try.func6, Try.ntmps6
     go_wp2_with (first | (go_at_call 20; (with_reducible refine (cohousinglaw29_head.calls k  true _ A5.out).mono ?_); rintro e w33 ⟨rfl, hb⟩; have n0_ := Aside0.mk (below_step (by repeat (first | (with_reducible first | exact HB.out | apply below_alloc | apply pw_below_drewN | apply below_drew1) | exact HB.out)) hb); clear HB; have HB := n0_; clear n0_; (try clear hb); (try clear hb2); (try clear hk); (try clear hi)) | (go_at_call 25; (with_reducible refine (charges_Share.calls a0 a1 _ _ l2 _ _ l3 t435 t436 t437 _ ?side1 ?side2 ?side3 ?side4 A8.out).mono ?_); (case side1 => repeat (first | exact (Kd.C_below HR2.out HB.out) | (with_reducible refine Kd.C_alloc ?_ _) | (with_reducible refine Kd.C_drewN ?_ _) | (with_reducible refine Kd.C_drew ?_))); (case side2 => exact HC2.out); (case side3 => repeat (first | exact (Kd.C_below HR3.out HB.out) | (with_reducible refine Kd.C_alloc ?_ _) | (with_reducible refine Kd.C_drewN ?_ _) | (with_reducible refine Kd.C_drew ?_))); (case side4 => exact HC3.out); rintro e w34 ⟨v438, rfl, ho0, hb⟩; have n0_ := Aside0.mk (Kd.R_lower ho0 (below_size (by repeat (first | (with_reducible first | exact HB.out | apply below_alloc | apply pw_below_drewN | apply below_drew1) | exact HB.out)))); have n1_ := Aside0.mk (below_step (by repeat (first | (with_reducible first | exact HB.out | apply below_alloc | apply pw_below_drewN | apply below_drew1) | exact HB.out)) hb); clear HB; have HO439 := n0_; have HB := n1_; clear n0_ n1_; (try clear hb); (try clear hb2); (try clear hk); (try clear hi); (try clear ho0); obtain ⟨Ao35, co35, eo35⟩ := Kd.R_slice HO439.out; subst eo35))
     repeat (go_quiet (first | (go_at_call 20; (with_reducible refine (cohousinglaw29_head.calls k  true _ A5.out).mono ?_); rintro e w33 ⟨rfl, hb⟩; have n0_ := Aside0.mk (below_step (by repeat (first | (with_reducible first | exact HB.out | apply below_alloc | apply pw_below_drewN | apply below_drew1) | exact HB.out)) hb); clear HB; have HB := n0_; clear n0_; (try clear hb); (try clear hb2); (try clear hk); (try clear hi)) | (go_at_call 25; (with_reducible refine (charges_Share.calls a0 a1 _ _ l2 _ _ l3 t435 t436 t437 _ ?side1 ?side2 ?side3 ?side4 A8.out).mono ?_); (case side1 => repeat (first | exact (Kd.C_below HR2.out HB.out) | (with_reducible refine Kd.C_alloc ?_ _) | (with_reducible refine Kd.C_drewN ?_ _) | (with_reducible refine Kd.C_drew ?_))); (case side2 => exact HC2.out); (case side3 => repeat (first | exact (Kd.C_below HR3.out HB.out) | (with_reducible refine Kd.C_alloc ?_ _) | (with_reducible refine Kd.C_drewN ?_ _) | (with_reducible refine Kd.C_drew ?_))); (case side4 => exact HC3.out); rintro e w34 ⟨v438, rfl, ho0, hb⟩; have n0_ := Aside0.mk (Kd.R_lower ho0 (below_size (by repeat (first | (with_reducible first | exact HB.out | apply below_alloc | apply pw_below_drewN | apply below_drew1) | exact HB.out)))); have n1_ := Aside0.mk (below_step (by repeat (first | (with_reducible first | exact HB.out | apply below_alloc | apply pw_below_drewN | apply below_drew1) | exact HB.out)) hb); clear HB; have HO439 := n0_; have HB := n1_; clear n0_ n1_; (try clear hb); (try clear hb2); (try clear hk); (try clear hi); (try clear ho0); obtain ⟨Ao35, co35, eo35⟩ := Kd.R_slice HO439.out; subst eo35)); try go_wp2_with (first | (go_at_call 20; (with_reducible refine (cohousinglaw29_head.calls k  true _ A5.out).mono ?_); rintro e w33 ⟨rfl, hb⟩; have n0_ := Aside0.mk (below_step (by repeat (first | (with_reducible first | exact HB.out | apply below_alloc | apply pw_below_drewN | apply below_drew1) | exact HB.out)) hb); clear HB; have HB := n0_; clear n0_; (try clear hb); (try clear hb2); (try clear hk); (try clear hi)) | (go_at_call 25; (with_reducible refine (charges_Share.calls a0 a1 _ _ l2 _ _ l3 t435 t436 t437 _ ?side1 ?side2 ?side3 ?side4 A8.out).mono ?_); (case side1 => repeat (first | exact (Kd.C_below HR2.out HB.out) | (with_reducible refine Kd.C_alloc ?_ _) | (with_reducible refine Kd.C_drewN ?_ _) | (with_reducible refine Kd.C_drew ?_))); (case side2 => exact HC2.out); (case side3 => repeat (first | exact (Kd.C_below HR3.out HB.out) | (with_reducible refine Kd.C_alloc ?_ _) | (with_reducible refine Kd.C_drewN ?_ _) | (with_reducible refine Kd.C_drew ?_))); (case side4 => exact HC3.out); rintro e w34 ⟨v438, rfl, ho0, hb⟩; have n0_ := Aside0.mk (Kd.R_lower ho0 (below_size (by repeat (first | (with_reducible first | exact HB.out | apply below_alloc | apply pw_below_drewN | apply below_drew1) | exact HB.out)))); have n1_ := Aside0.mk (below_step (by repeat (first | (with_reducible first | exact HB.out | apply below_alloc | apply pw_below_drewN | apply below_drew1) | exact HB.out)) hb); clear HB; have HO439 := n0_; have HB := n1_; clear n0_ n1_; (try clear hb); (try clear hb2); (try clear hk); (try clear hi); (try clear ho0); obtain ⟨Ao35, co35, eo35⟩ := Kd.R_slice HO439.out; subst eo35)))
     go_ret
     exact ⟨by first | rfl | (simp [errW_none, errW_some] <;> rfl) | (simp [*, errW_none, errW_some] <;> rfl), by repeat (first | (with_reducible first | exact HB.out | apply below_alloc | apply pw_below_drewN | apply below_drew1) | exact HB.out)⟩
   ·replace c28 := Bool.eq_false_iff.mpr c28
    subst c28
    have H1 : (some false) = some r := by rw [if_neg (show ¬ (false = true) by decide)] at H; exact H
    clear H
    have H := H1
    clear H1
    obtain rfl := Option.some.inj H
    go_enter Try.func6, Try.ntmps6
    go_wp2_with (first | (go_at_call 20; (with_reducible refine (cohousinglaw29_head.calls k  false _ A5.out).mono ?_); rintro e w36 ⟨rfl, hb⟩; have n0_ := Aside0.mk (below_step (by repeat (first | (with_reducible first | exact HB.out | apply below_alloc | apply pw_below_drewN | apply below_drew1) | exact HB.out)) hb); clear HB; have HB := n0_; clear n0_; (try clear hb); (try clear hb2); (try clear hk); (try clear hi)) | (go_at_call 25; (with_reducible refine (charges_Share.calls a0 a1 _ _ l2 _ _ l3 t435 t436 t437 _ ?side1 ?side2 ?side3 ?side4 A8.out).mono ?_); (case side1 => repeat (first | exact (Kd.C_below HR2.out HB.out) | (with_reducible refine Kd.C_alloc ?_ _) | (with_reducible refine Kd.C_drewN ?_ _) | (with_reducible refine Kd.C_drew ?_))); (case side2 => exact HC2.out); (case side3 => repeat (first | exact (Kd.C_below HR3.out HB.out) | (with_reducible refine Kd.C_alloc ?_ _) | (with_reducible refine Kd.C_drewN ?_ _) | (with_reducible refine Kd.C_drew ?_))); (case side4 => exact HC3.out); rintro e w37 ⟨v438, rfl, ho0, hb⟩; have n0_ := Aside0.mk (Kd.R_lower ho0 (below_size (by repeat (first | (with_reducible first | exact HB.out | apply below_alloc | apply pw_below_drewN | apply below_drew1) | exact HB.out)))); have n1_ := Aside0.mk (below_step (by repeat (first | (with_reducible first | exact HB.out | apply below_alloc | apply pw_below_drewN | apply below_drew1) | exact HB.out)) hb); clear HB; have HO439 := n0_; have HB := n1_; clear n0_ n1_; (try clear hb); (try clear hb2); (try clear hk); (try clear hi); (try clear ho0)))
    repeat (go_quiet (first | (go_at_call 20; (with_reducible refine (cohousinglaw29_head.calls k  false _ A5.out).mono ?_); rintro e w36 ⟨rfl, hb⟩; have n0_ := Aside0.mk (below_step (by repeat (first | (with_reducible first | exact HB.out | apply below_alloc | apply pw_below_drewN | apply below_drew1) | exact HB.out)) hb); clear HB; have HB := n0_; clear n0_; (try clear hb); (try clear hb2); (try clear hk); (try clear hi)) | (go_at_call 25; (with_reducible refine (charges_Share.calls a0 a1 _ _ l2 _ _ l3 t435 t436 t437 _ ?side1 ?side2 ?side3 ?side4 A8.out).mono ?_); (case side1 => repeat (first | exact (Kd.C_below HR2.out HB.out) | (with_reducible refine Kd.C_alloc ?_ _) | (with_reducible refine Kd.C_drewN ?_ _) | (with_reducible refine Kd.C_drew ?_))); (case side2 => exact HC2.out); (case side3 => repeat (first | exact (Kd.C_below HR3.out HB.out) | (with_reducible refine Kd.C_alloc ?_ _) | (with_reducible refine Kd.C_drewN ?_ _) | (with_reducible refine Kd.C_drew ?_))); (case side4 => exact HC3.out); rintro e w37 ⟨v438, rfl, ho0, hb⟩; have n0_ := Aside0.mk (Kd.R_lower ho0 (below_size (by repeat (first | (with_reducible first | exact HB.out | apply below_alloc | apply pw_below_drewN | apply below_drew1) | exact HB.out)))); have n1_ := Aside0.mk (below_step (by repeat (first | (with_reducible first | exact HB.out | apply below_alloc | apply pw_below_drewN | apply below_drew1) | exact HB.out)) hb); clear HB; have HO439 := n0_; have HB := n1_; clear n0_ n1_; (try clear hb); (try clear hb2); (try clear hk); (try clear hi); (try clear ho0))); try go_wp2_with (first | (go_at_call 20; (with_reducible refine (cohousinglaw29_head.calls k  false _ A5.out).mono ?_); rintro e w36 ⟨rfl, hb⟩; have n0_ := Aside0.mk (below_step (by repeat (first | (with_reducible first | exact HB.out | apply below_alloc | apply pw_below_drewN | apply below_drew1) | exact HB.out)) hb); clear HB; have HB := n0_; clear n0_; (try clear hb); (try clear hb2); (try clear hk); (try clear hi)) | (go_at_call 25; (with_reducible refine (charges_Share.calls a0 a1 _ _ l2 _ _ l3 t435 t436 t437 _ ?side1 ?side2 ?side3 ?side4 A8.out).mono ?_); (case side1 => repeat (first | exact (Kd.C_below HR2.out HB.out) | (with_reducible refine Kd.C_alloc ?_ _) | (with_reducible refine Kd.C_drewN ?_ _) | (with_reducible refine Kd.C_drew ?_))); (case side2 => exact HC2.out); (case side3 => repeat (first | exact (Kd.C_below HR3.out HB.out) | (with_reducible refine Kd.C_alloc ?_ _) | (with_reducible refine Kd.C_drewN ?_ _) | (with_reducible refine Kd.C_drew ?_))); (case side4 => exact HC3.out); rintro e w37 ⟨v438, rfl, ho0, hb⟩; have n0_ := Aside0.mk (Kd.R_lower ho0 (below_size (by repeat (first | (with_reducible first | exact HB.out | apply below_alloc | apply pw_below_drewN | apply below_drew1) | exact HB.out)))); have n1_ := Aside0.mk (below_step (by repeat (first | (with_reducible first | exact HB.out | apply below_alloc | apply pw_below_drewN | apply below_drew1) | exact HB.out)) hb); clear HB; have HO439 := n0_; have HB := n1_; clear n0_ n1_; (try clear hb); (try clear hb2); (try clear hk); (try clear hi); (try clear ho0))))
    go_ret
    exact ⟨by first | rfl | (simp [errW_none, errW_some] <;> rfl) | (simp [*, errW_none, errW_some] <;> rfl), by repeat (first | (with_reducible first | exact HB.out | apply below_alloc | apply pw_below_drewN | apply below_drew1) | exact HB.out)⟩
end Go.Proofs.Ytbgchacafglcpaa.P
end
section
namespace Go.Proofs.Ytbgchacafglcpaa.P
open Go.RowKit Go.Proofs.YtbgchacafglcpaaW.PrintWords Go.Proofs.YtbgchacafglcpaaW.PrintLast Go.Proofs.YtbgchacafglcpaaW.PrintMore Go.Proofs.YtbgchacafglcpaaH Go.Proofs.FlowTree
theorem Ev.of_mono {α : Type} {f : Nat → Option α} {r : α} (k0 : Nat) (h0 : f k0 = some r) (h : ∀ k, LeO (f k) (f (k + 1))) : Ev f r := by
 refine ⟨k0, fun k hk => ?_⟩
 obtain ⟨d, rfl⟩ : ∃ d, k = k0 + d := ⟨k - k0, by omega⟩
 induction d with
 | zero => exact h0
 | succ d ih => exact h _ _ (ih (by omega))
theorem head_ev : Ev (fun k => cohousinglaw29_head.f k) true := Ev.of_mono 60 (by kernel_rfl) (fun k => cohousinglaw29_head.mono k)
section
variable {c t : Int} {l : List RGE}
theorem csum_l0 {homes : List Int} (h : PartsOk c t l) (hl : ¬ t < leastN l l.length) {p : List CH × Int} (hp : LowAt homes c t l l.length p) : ∀ d i : Nat, i + d = l.length →
  Ev (fun k => cohousinglaw29_ChargesSum.l0 k c l true p.1 (c - p.2) (c - p.2 + sm (fun j => (cc p.1 j).f1) (List.range i)) (i : Int)) true := by
 have hc0 := h.1
 have hc1 := h.2.1
 have hn := h.2.2.2.2.1
 have hbd := hp.bd
 intro d
 induction d with
 | zero =>
  intro i hi
  have e : i = l.length := by omega
  subst e
  have h1 : ¬ ((l.length : Int) < (p.1.length : Int)) := by rw [hp.len]; omega
  have h2 : (p.1.length : Int) = (l.length : Int) := by rw [hp.len]
  have h3 : c - p.2 + sm (fun j => (cc p.1 j).f1) (List.range l.length) = c := by rw [← hp.sum]; omega
  have hg := house_ge h hl hp
  have w : wrap64 ((-2) * (c - p.2)) = (-2) * (c - p.2) := wrap_id' (by omega) (by omega)
  have h4 : decide ((-2) * (c - p.2) ≤ (l.length : Int)) = true := decide_eq_true hg
  refine Ev.step ?_
  simp only [cohousinglaw29_ChargesSum.l0, Int.lt_irrefl, if_false, if_true, h2, h3, w, h4]
  exact Ev.pure _
 | succ d ih =>
  intro i hi
  have hil : i < l.length := by omega
  have hf := hp.form i hil
  have hb := b_bd h i hil
  have h1 : ((i : Int) < (p.1.length : Int)) := by rw [hp.len]; omega
  have h2 : (0 : Int) ≤ (i : Int) := by omega
  have q0 : (rd_T43 p.1 (i : Int)).f1 = (cc p.1 i).f1 := rfl
  have q1 : (rd_T43 p.1 (i : Int)).f2.f0 = bLo c t l i := hf.lo
  have q2 : (rd_T43 p.1 (i : Int)).f2.f1 = bHi c t l i := hf.hi
  have q3 : (rd_T43 p.1 (i : Int)).f3 = (bLo c t l i == bHi c t l i) := hf.sure
  have c1 : ¬ ((cc p.1 i).f1 < bLo c t l i) := by have := hf.ge; omega
  have c2 : ¬ ((cc p.1 i).f1 > bHi c t l i) := by have := hf.le; omega
  have hge := hf.ge
  have hle := hf.le
  have hps : 0 ≤ sm (fun j => (cc p.1 j).f1) (List.range i) ∧ sm (fun j => (cc p.1 j).f1) (List.range i) ≤ 1000000000 * i := by
   have := sm_bound (f := fun j => (cc p.1 j).f1) (ks := List.range i) (a := 0) (b := 1000000000) (fun j hj => by
    have hj' := List.mem_range.1 hj
    have h1 := hp.form j (by omega)
    have h2 := b_bd h j (by omega)
    have := h1.ge
    have := h1.le
    show 0 ≤ (cc p.1 j).f1 ∧ (cc p.1 j).f1 ≤ 1000000000
    omega)
   rw [List.length_range] at this
   omega
  have w : wrap64 (c - p.2 + sm (fun j => (cc p.1 j).f1) (List.range i) + (cc p.1 i).f1) = c - p.2 + sm (fun j => (cc p.1 j).f1) (List.range (i + 1)) := by
   rw [wrap_id' (by omega) (by omega), List.range_succ, sm_append, sm_cons, sm_nil]
   omega
  refine Ev.step ?_
  simp only [cohousinglaw29_ChargesSum.l0, h1, h2, if_true, q0, q1, q2, q3, c1, c2, if_false, bne_self_eq_false, Bool.false_eq_true, w, wrap_nat (show i ≤ 140737488355328 by omega)]
  exact ih (i + 1) (by omega)
theorem csum_ (homes : List Int) (l : List RGE) (c t : Int) : Ev (fun k => cohousinglaw29_ChargesSum.f k c t homes l) true := by
 unfold cohousinglaw29_ChargesSum.f
 refine Ev.bnd head_ev ?_
 by_cases h20 : (l.length : Int) > 20
 ·simp only [h20, if_true]
  exact Ev.pure _
 simp only [h20, if_false, charges_Share.f, Option.bind_some]
 have hs := shareC_is c t homes l
 generalize shareC c t homes l = q at hs
 cases hs with
 | arg _ =>
  have e : ((1 : Int) = 0) = False := by simp
  simp only [e, if_false, if_true, List.length_nil]
  exact Ev.pure _
 | flow _ _ _ _ =>
  have e : ((30 : Int) = 0) = False := by simp
  simp only [e, if_false, if_true, List.length_nil]
  exact Ev.pure _
 | ok p h _ _ hl hp _ =>
  simp only [if_true]
  have := csum_l0 h hl hp l.length 0 (by omega)
  rw [List.range_zero, sm_nil, Int.add_zero] at this
  exact this
end
end Go.Proofs.Ytbgchacafglcpaa.P
end
