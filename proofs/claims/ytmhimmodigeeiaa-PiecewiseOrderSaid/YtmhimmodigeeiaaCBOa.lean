/- Part 1 of the proof of PiecewiseOrder: what it alone needs. -/
import Derived.Test.YtmhimmodigeeiaaCBj
set_option linter.unusedVariables false
set_option linter.unusedSimpArgs false
section
namespace Go.Proofs.Ytmhimmodigeeiaa.P
open Go.RowKit Go.Proofs.YtmhimmodigeeiaaW.PrintWords Go.Proofs.YtmhimmodigeeiaaW.PrintLast Go.Proofs.YtmhimmodigeeiaaW.PrintMore
attribute [local go_sem] max2_int min2_int max_two min_two max_three min_three max_four min_four
set_option linter.unusedVariables false
set_option linter.unusedSimpArgs false
set_option maxHeartbeats 8000000
set_option maxRecDepth 100000
section
attribute [local go_sem high] eqA24
mutual
def cohousinglaw05_PiecewiseOrder.j0 : Nat → List (S51) → List (S51) → Bool → Int → Bool → Option (Bool)
 | 0, _, _, _, _, _ => none
 | k + 1, x0, x1, x7, x8, x70 => if x70 = true then (some false) else ((piecewise_Least.f x0 x1).bind fun bt616 => ((piecewise_Least.f x1 x0).bind fun bt620 => (if bt616.2 = 0 then (cohousinglaw05_PiecewiseOrder.j1 k x0 x1 x7 x8 bt616.1 bt620.1 (bt620.2 == 0)) else (cohousinglaw05_PiecewiseOrder.j1 k x0 x1 x7 x8 bt616.1 bt620.1 false))))
def cohousinglaw05_PiecewiseOrder.j1 : Nat → List (S51) → List (S51) → Bool → Int → List (S51) → List (S51) → Bool → Option (Bool)
 | 0, _, _, _, _, _, _, _ => none
 | k + 1, x0, x1, x7, x8, x13, x15, x88 => if x88 = true then ((cohousingref05_Valid.f k x13).bind fun t624 => (if t624 = true then ((cohousingref05_Valid.f k x15).bind fun t625 => (if t625 = true then ((cohousingref05_Value.f k x13 x8).bind fun bt626 => ((cohousingref05_Value.f k x15 x8).bind fun bt628 => (cohousinglaw05_PiecewiseOrder.j2 k x0 x1 x7 x8 x13 (!(bt626.1 == bt628.1) || (!(bt626.2 == bt628.2)))))) else (cohousinglaw05_PiecewiseOrder.j2 k x0 x1 x7 x8 x13 true))) else (cohousinglaw05_PiecewiseOrder.j2 k x0 x1 x7 x8 x13 true))) else (cohousinglaw05_PiecewiseOrder.j3 k x0 x7 x8)
def cohousinglaw05_PiecewiseOrder.j3 : Nat → List (S51) → Bool → Int → Option (Bool)
 | 0, _, _, _ => none
 | k + 1, x0, x7, x8 => (piecewise_Least.f x0 x0).bind fun bt636 => (if x7 = true then (if bt636.2 = 0 then ((cohousingref05_Valid.f k bt636.1).bind fun t640 => (if t640 = true then ((cohousingref05_Value.f k bt636.1 x8).bind fun bt641 => ((cohousingref05_Value.f k x0 x8).bind fun bt643 => (some (bt641.1 == bt643.1 && (bt641.2 == bt643.2))))) else (some false))) else (some false)) else (some false))
def cohousinglaw05_PiecewiseOrder.j2 : Nat → List (S51) → List (S51) → Bool → Int → List (S51) → Bool → Option (Bool)
 | 0, _, _, _, _, _, _ => none
 | k + 1, x0, x1, x7, x8, x13, x105 => if x105 = true then (some false) else ((piecewise_Below.f x0 x13 0 100000).bind fun bt630 => ((piecewise_Below.f x1 x13 0 100000).bind fun bt633 => (if x7 = true then (if bt630.2.2 = 0 then (if bt633.2.2 = 0 then (if bt630.2.1 = true then (cohousinglaw05_PiecewiseOrder.j3 k x0 false x8) else (cohousinglaw05_PiecewiseOrder.j3 k x0 (!bt633.2.1) x8)) else (cohousinglaw05_PiecewiseOrder.j3 k x0 false x8)) else (cohousinglaw05_PiecewiseOrder.j3 k x0 false x8)) else (cohousinglaw05_PiecewiseOrder.j3 k x0 false x8))))
end
def cohousinglaw05_PiecewiseOrder.f (k : Nat) (l0 : List (S51)) (l1 : List (S51)) (a2 : Int) : Option (Bool) := (cohousinglaw05_head.f k).bind fun t599 => ((cohousinglaw05_both.f k l0 l1).bind fun t600 => (if t600 = true then ((cohousinglaw05_place.f a2).bind fun t601 => ((piecewise_Add.f l0 l1).bind fun bt602 => ((piecewise_Add.f l1 l0).bind fun bt606 => (if bt602.2 = bt606.2 then (if bt602.2 = 0 then ((cohousingref05_Valid.f k bt602.1).bind fun t610 => (if t610 = true then ((cohousingref05_Valid.f k bt606.1).bind fun t611 => (if t611 = true then ((cohousingref05_Value.f k bt602.1 t601).bind fun bt612 => ((cohousingref05_Value.f k bt606.1 t601).bind fun bt614 => (cohousinglaw05_PiecewiseOrder.j0 k l0 l1 t599 t601 (!(bt612.1 == bt614.1) || (!(bt612.2 == bt614.2)))))) else (cohousinglaw05_PiecewiseOrder.j0 k l0 l1 t599 t601 true))) else (cohousinglaw05_PiecewiseOrder.j0 k l0 l1 t599 t601 true))) else (cohousinglaw05_PiecewiseOrder.j0 k l0 l1 t599 t601 false)) else (cohousinglaw05_PiecewiseOrder.j0 k l0 l1 t599 t601 true))))) else (some t599)))
theorem cohousinglaw05_PiecewiseOrder.calls (k : Nat) (A0 : Option Addr) (c0 : Nat) (l0 : List (S51)) (A1 : Option Addr) (c1 : Nat) (l1 : List (S51)) (a2 : Int) (r : Bool) (w : World) (hr0 : Kd.C k51 w A0 l0.length l0) (hc0 : l0.length ≤ c0) (hr1 : Kd.C k51 w A1 l1.length l1) (hc1 : l1.length ≤ c1) (h : cohousinglaw05_PiecewiseOrder.f k l0 l1 a2 = some r) :
  Calls Try.prog 7 #[.slice A0 l0.length c0, .slice A1 l1.length c1, .int .u32 a2] w fun e w' => e = .returned (.bool r) ∧ Below w.heap.size w w' := by
 have hu26 := Try.underlying26
 have HR0 := mk_ hr0
 have HC0 := mk_ hc0
 clear hr0 hc0
 have HR1 := mk_ hr1
 have HC1 := mk_ hc1
 clear hr1 hc1
 have HB := mk_ (Below.refl w.heap.size w)
 have H : ((cohousinglaw05_head.f k).bind fun t599 => ((cohousinglaw05_both.f k l0 l1).bind fun t600 => (if t600 = true then ((cohousinglaw05_place.f a2).bind fun t601 => ((piecewise_Add.f l0 l1).bind fun bt602 => ((piecewise_Add.f l1 l0).bind fun bt606 => (if bt602.2 = bt606.2 then (if bt602.2 = 0 then ((cohousingref05_Valid.f k bt602.1).bind fun t610 => (if t610 = true then ((cohousingref05_Valid.f k bt606.1).bind fun t611 => (if t611 = true then ((cohousingref05_Value.f k bt602.1 t601).bind fun bt612 => ((cohousingref05_Value.f k bt606.1 t601).bind fun bt614 => (cohousinglaw05_PiecewiseOrder.j0 k l0 l1 t599 t601 (!(bt612.1 == bt614.1) || (!(bt612.2 == bt614.2)))))) else (cohousinglaw05_PiecewiseOrder.j0 k l0 l1 t599 t601 true))) else (cohousinglaw05_PiecewiseOrder.j0 k l0 l1 t599 t601 true))) else (cohousinglaw05_PiecewiseOrder.j0 k l0 l1 t599 t601 false)) else (cohousinglaw05_PiecewiseOrder.j0 k l0 l1 t599 t601 true))))) else (some t599)))) = some r := h
 clear h
 replace H := Option.bind_eq_some_iff.mp H
 obtain ⟨t599, A40, H⟩ := H
 replace H : ((cohousinglaw05_both.f k l0 l1).bind fun t600 => (if t600 = true then ((cohousinglaw05_place.f a2).bind fun t601 => ((piecewise_Add.f l0 l1).bind fun bt602 => ((piecewise_Add.f l1 l0).bind fun bt606 => (if bt602.2 = bt606.2 then (if bt602.2 = 0 then ((cohousingref05_Valid.f k bt602.1).bind fun t610 => (if t610 = true then ((cohousingref05_Valid.f k bt606.1).bind fun t611 => (if t611 = true then ((cohousingref05_Value.f k bt602.1 t601).bind fun bt612 => ((cohousingref05_Value.f k bt606.1 t601).bind fun bt614 => (cohousinglaw05_PiecewiseOrder.j0 k l0 l1 t599 t601 (!(bt612.1 == bt614.1) || (!(bt612.2 == bt614.2)))))) else (cohousinglaw05_PiecewiseOrder.j0 k l0 l1 t599 t601 true))) else (cohousinglaw05_PiecewiseOrder.j0 k l0 l1 t599 t601 true))) else (cohousinglaw05_PiecewiseOrder.j0 k l0 l1 t599 t601 false)) else (cohousinglaw05_PiecewiseOrder.j0 k l0 l1 t599 t601 true))))) else (some t599))) = some r := H
 have A4 := mk_ A40
 clear A40
 replace H := Option.bind_eq_some_iff.mp H
 obtain ⟨t600, A50, H⟩ := H
 replace H : (if t600 = true then ((cohousinglaw05_place.f a2).bind fun t601 => ((piecewise_Add.f l0 l1).bind fun bt602 => ((piecewise_Add.f l1 l0).bind fun bt606 => (if bt602.2 = bt606.2 then (if bt602.2 = 0 then ((cohousingref05_Valid.f k bt602.1).bind fun t610 => (if t610 = true then ((cohousingref05_Valid.f k bt606.1).bind fun t611 => (if t611 = true then ((cohousingref05_Value.f k bt602.1 t601).bind fun bt612 => ((cohousingref05_Value.f k bt606.1 t601).bind fun bt614 => (cohousinglaw05_PiecewiseOrder.j0 k l0 l1 t599 t601 (!(bt612.1 == bt614.1) || (!(bt612.2 == bt614.2)))))) else (cohousinglaw05_PiecewiseOrder.j0 k l0 l1 t599 t601 true))) else (cohousinglaw05_PiecewiseOrder.j0 k l0 l1 t599 t601 true))) else (cohousinglaw05_PiecewiseOrder.j0 k l0 l1 t599 t601 false)) else (cohousinglaw05_PiecewiseOrder.j0 k l0 l1 t599 t601 true))))) else (some t599)) = some r := H
 have A5 := mk_ A50
 clear A50
 by_cases c6 : t600 = true
 rotate_left
 ·replace c6 := Bool.eq_false_iff.mpr c6
  subst c6
  have H1 : (some t599) = some r := by rw [if_neg (show ¬ (false = true) by decide)] at H; exact H
  clear H
  have H := H1
  clear H1
  obtain rfl := Option.some.inj H
  go_enter Try.func7, Try.ntmps7
  go_wp2_with (first | ((with_reducible refine gate_callee (f := 10) rfl ?_); refine gl_ (some 25) Try.func10 #[] ?_; (with_reducible refine (cohousinglaw05_head.calls k  t599 _ A4.out).mono ?_); rintro e w102 ⟨rfl, hb⟩; refine ⟨_, rfl, ?_⟩; have n0_ := mk_ (below_step (bb_ HB) hb); clear HB; revert n0_; intro HB; (try clear hb); (try clear hb2); (try clear hk); (try clear hi)) | ((with_reducible refine gate_callee (f := 25) rfl ?_); refine gl_ (some 28) Try.func25 #[.slice A0 l0.length c0, .slice A1 l1.length c1] ?_; (with_reducible refine (cohousinglaw05_both.calls k _ _ l0 _ _ l1 false _ ?side1 ?side2 ?side3 ?side4 A5.out).mono ?_); (case side1 => exact cc_ ((Kd.C_below HR0.out HB.out))); (case side2 => exact HC0.out); (case side3 => exact cc_ ((Kd.C_below HR1.out HB.out))); (case side4 => exact HC1.out); rintro e w103 ⟨rfl, hb⟩; refine ⟨_, rfl, ?_⟩; have n0_ := mk_ (below_step (bb_ HB) hb); clear HB; revert n0_; intro HB; (try clear hb); (try clear hb2); (try clear hk); (try clear hi)))
  go_ret
  exact ⟨ew_, bb_ HB⟩
 subst c6
 have H1 : ((cohousinglaw05_place.f a2).bind fun t601 => ((piecewise_Add.f l0 l1).bind fun bt602 => ((piecewise_Add.f l1 l0).bind fun bt606 => (if bt602.2 = bt606.2 then (if bt602.2 = 0 then ((cohousingref05_Valid.f k bt602.1).bind fun t610 => (if t610 = true then ((cohousingref05_Valid.f k bt606.1).bind fun t611 => (if t611 = true then ((cohousingref05_Value.f k bt602.1 t601).bind fun bt612 => ((cohousingref05_Value.f k bt606.1 t601).bind fun bt614 => (cohousinglaw05_PiecewiseOrder.j0 k l0 l1 t599 t601 (!(bt612.1 == bt614.1) || (!(bt612.2 == bt614.2)))))) else (cohousinglaw05_PiecewiseOrder.j0 k l0 l1 t599 t601 true))) else (cohousinglaw05_PiecewiseOrder.j0 k l0 l1 t599 t601 true))) else (cohousinglaw05_PiecewiseOrder.j0 k l0 l1 t599 t601 false)) else (cohousinglaw05_PiecewiseOrder.j0 k l0 l1 t599 t601 true))))) = some r := by rw [if_pos rfl] at H; exact H
 clear H
 have H := H1
 clear H1
 replace H := Option.bind_eq_some_iff.mp H
 obtain ⟨t601, A70, H⟩ := H
 replace H : ((piecewise_Add.f l0 l1).bind fun bt602 => ((piecewise_Add.f l1 l0).bind fun bt606 => (if bt602.2 = bt606.2 then (if bt602.2 = 0 then ((cohousingref05_Valid.f k bt602.1).bind fun t610 => (if t610 = true then ((cohousingref05_Valid.f k bt606.1).bind fun t611 => (if t611 = true then ((cohousingref05_Value.f k bt602.1 t601).bind fun bt612 => ((cohousingref05_Value.f k bt606.1 t601).bind fun bt614 => (cohousinglaw05_PiecewiseOrder.j0 k l0 l1 t599 t601 (!(bt612.1 == bt614.1) || (!(bt612.2 == bt614.2)))))) else (cohousinglaw05_PiecewiseOrder.j0 k l0 l1 t599 t601 true))) else (cohousinglaw05_PiecewiseOrder.j0 k l0 l1 t599 t601 true))) else (cohousinglaw05_PiecewiseOrder.j0 k l0 l1 t599 t601 false)) else (cohousinglaw05_PiecewiseOrder.j0 k l0 l1 t599 t601 true)))) = some r := H
 have A7 := mk_ A70
 clear A70
 replace H := Option.bind_eq_some_iff.mp H
 obtain ⟨⟨t602, t603⟩, A80, H⟩ := H
 replace H : ((piecewise_Add.f l1 l0).bind fun bt606 => (if t603 = bt606.2 then (if t603 = 0 then ((cohousingref05_Valid.f k t602).bind fun t610 => (if t610 = true then ((cohousingref05_Valid.f k bt606.1).bind fun t611 => (if t611 = true then ((cohousingref05_Value.f k t602 t601).bind fun bt612 => ((cohousingref05_Value.f k bt606.1 t601).bind fun bt614 => (cohousinglaw05_PiecewiseOrder.j0 k l0 l1 t599 t601 (!(bt612.1 == bt614.1) || (!(bt612.2 == bt614.2)))))) else (cohousinglaw05_PiecewiseOrder.j0 k l0 l1 t599 t601 true))) else (cohousinglaw05_PiecewiseOrder.j0 k l0 l1 t599 t601 true))) else (cohousinglaw05_PiecewiseOrder.j0 k l0 l1 t599 t601 false)) else (cohousinglaw05_PiecewiseOrder.j0 k l0 l1 t599 t601 true))) = some r := H
 have A8 := mk_ A80
 clear A80
 replace H := Option.bind_eq_some_iff.mp H
 obtain ⟨⟨t606, t607⟩, A90, H⟩ := H
 replace H : (if t603 = t607 then (if t603 = 0 then ((cohousingref05_Valid.f k t602).bind fun t610 => (if t610 = true then ((cohousingref05_Valid.f k t606).bind fun t611 => (if t611 = true then ((cohousingref05_Value.f k t602 t601).bind fun bt612 => ((cohousingref05_Value.f k t606 t601).bind fun bt614 => (cohousinglaw05_PiecewiseOrder.j0 k l0 l1 t599 t601 (!(bt612.1 == bt614.1) || (!(bt612.2 == bt614.2)))))) else (cohousinglaw05_PiecewiseOrder.j0 k l0 l1 t599 t601 true))) else (cohousinglaw05_PiecewiseOrder.j0 k l0 l1 t599 t601 true))) else (cohousinglaw05_PiecewiseOrder.j0 k l0 l1 t599 t601 false)) else (cohousinglaw05_PiecewiseOrder.j0 k l0 l1 t599 t601 true)) = some r := H
 have A9 := mk_ A90
 clear A90
 have HC10 := mk_ H
 clear H
 go_enter Try.func7, Try.ntmps7
 go_upto_region 7 with (first | ((with_reducible refine gate_callee (f := 10) rfl ?_); refine gl_ (some 25) Try.func10 #[] ?_; (with_reducible refine (cohousinglaw05_head.calls k  t599 _ A4.out).mono ?_); rintro e w11 ⟨rfl, hb⟩; refine ⟨_, rfl, ?_⟩; have n0_ := mk_ (below_step (bb_ HB) hb); clear HB; revert n0_; intro HB; (try clear hb); (try clear hb2); (try clear hk); (try clear hi)) | ((with_reducible refine gate_callee (f := 25) rfl ?_); refine gl_ (some 28) Try.func25 #[.slice A0 l0.length c0, .slice A1 l1.length c1] ?_; (with_reducible refine (cohousinglaw05_both.calls k _ _ l0 _ _ l1 true _ ?side1 ?side2 ?side3 ?side4 A5.out).mono ?_); (case side1 => exact cc_ ((Kd.C_below HR0.out HB.out))); (case side2 => exact HC0.out); (case side3 => exact cc_ ((Kd.C_below HR1.out HB.out))); (case side4 => exact HC1.out); rintro e w12 ⟨rfl, hb⟩; refine ⟨_, rfl, ?_⟩; have n0_ := mk_ (below_step (bb_ HB) hb); clear HB; revert n0_; intro HB; (try clear hb); (try clear hb2); (try clear hk); (try clear hi)) | ((with_reducible refine gate_callee (f := 26) rfl ?_); refine gl_ (some 32) Try.func26 #[.int .u32 a2] ?_; (with_reducible refine (cohousinglaw05_place.calls a2 t601 _ A7.out).mono ?_); rintro e w' ⟨rfl, ⟨nd, rfl⟩⟩; refine ⟨_, rfl, ?_⟩) | ((with_reducible refine gate_callee (f := 16) rfl ?_); refine gl_ (some 36) Try.func16 #[.slice A0 l0.length c0, .slice A1 l1.length c1] ?_; (with_reducible refine (piecewise_Add.calls _ _ l0 _ _ l1 t602 t603 _ ?side1 ?side2 ?side3 ?side4 A8.out).mono ?_); (case side1 => exact cc_ ((Kd.C_below HR0.out (bb_ HB)))); (case side2 => exact HC0.out); (case side3 => exact cc_ ((Kd.C_below HR1.out (bb_ HB)))); (case side4 => exact HC1.out); rintro e w13 ⟨v604, rfl, ho0, hb⟩; refine ⟨_, rfl, ?_⟩; have n0_ := mk_ (Kd.R_lower ho0 (below_size (bb_ HB))); have n1_ := mk_ (below_step (bb_ HB) hb); clear HB; revert n0_ n1_; intro HO605 HB; (try clear hb); (try clear hb2); (try clear hk); (try clear hi); (try clear ho0)) | ((with_reducible refine gate_callee (f := 16) rfl ?_); refine gl_ (some 42) Try.func16 #[.slice A1 l1.length c1, .slice A0 l0.length c0] ?_; (with_reducible refine (piecewise_Add.calls _ _ l1 _ _ l0 t606 t607 _ ?side1 ?side2 ?side3 ?side4 A9.out).mono ?_); (case side1 => exact cc_ ((Kd.C_below HR1.out HB.out))); (case side2 => exact HC1.out); (case side3 => exact cc_ ((Kd.C_below HR0.out HB.out))); (case side4 => exact HC0.out); rintro e w14 ⟨v608, rfl, ho0, hb⟩; refine ⟨_, rfl, ?_⟩; have n0_ := mk_ (Kd.R_elder' (rr_ HO605) (Kd.R_base ho0) hb); have n1_ := mk_ (Kd.R_lower (Kd.R_new' ho0 (Kd.R_lt (rr_ HO605))) (below_size (bb_ HB))); have n2_ := mk_ (below_step (bb_ HB) hb); clear HO605 HB; revert n0_ n1_ n2_; intro HO605 HO609 HB; (try clear hb); (try clear hb2); (try clear hk); (try clear hi); (try clear ho0)))
 (try simp only [Act.put, sI_, s0_, sS_])
 go_cut [70] (fun v70 wc => ∃ (kq : Nat) (x70_9 : Bool), v70 = .bool x70_9 ∧ Aside0 (cohousinglaw05_PiecewiseOrder.j0 kq l0 l1 t599 t601 x70_9 = some r) ∧ Aside0 (kq ≤ k) ∧ Aside0 (Below w.heap.size w wc))
 case first =>
  have H := HC10.out
  clear HC10
  by_cases c15 : t603 = t607
  rotate_left
  ·rw [if_neg c15] at H
   have c15b0 : (t603 == t607) = false := beq_eq_false_iff_ne.mpr c15
   have c15b1 : (t603 != t607) = true := bne_iff_ne.mpr c15
   (first | rw [c15b0] | (simp only [i64_w, i32_w]; rw [c15b0]) | skip)
   have H' := mk_ H
   clear H
   go_wp2
   go_meet
   case rel => exact ⟨_, (true), sd_, H', ⟨by first | omega | exact Nat.le_refl _⟩, ⟨bb_ HB⟩⟩
  rw [if_pos c15] at H
  have c15b0 : (t603 == t607) = true := beq_iff_eq.mpr c15
  have c15b1 : (t603 != t607) = false := bne_eq_false_iff_eq.mpr c15
  clear c15
  (first | rw [c15b0] | (simp only [i64_w, i32_w]; rw [c15b0]) | skip)
  by_cases c16 : t603 = 0
  rotate_left
  ·rw [if_neg c16] at H
   have c16b0 : (t603 == 0) = false := beq_eq_false_iff_ne.mpr c16
   have c16b1 : (t603 != 0) = true := bne_iff_ne.mpr c16
   have H' := mk_ H
   clear H
   go_wp2
   go_meet
   case rel => exact ⟨_, (false), sd_, H', ⟨by first | omega | exact Nat.le_refl _⟩, ⟨bb_ HB⟩⟩
  rw [if_pos c16] at H
  have c16b0 : (t603 == 0) = true := beq_iff_eq.mpr c16
  have c16b1 : (t603 != 0) = false := bne_eq_false_iff_eq.mpr c16
  clear c16
  replace H := Option.bind_eq_some_iff.mp H
  obtain ⟨t610, A170, H⟩ := H
  replace H : (if t610 = true then ((cohousingref05_Valid.f k t606).bind fun t611 => (if t611 = true then ((cohousingref05_Value.f k t602 t601).bind fun bt612 => ((cohousingref05_Value.f k t606 t601).bind fun bt614 => (cohousinglaw05_PiecewiseOrder.j0 k l0 l1 t599 t601 (!(bt612.1 == bt614.1) || (!(bt612.2 == bt614.2)))))) else (cohousinglaw05_PiecewiseOrder.j0 k l0 l1 t599 t601 true))) else (cohousinglaw05_PiecewiseOrder.j0 k l0 l1 t599 t601 true)) = some r := H
  have A17 := mk_ A170
  clear A170
  by_cases c18 : t610 = true
  rotate_left
  ·replace c18 := Bool.eq_false_iff.mpr c18
   subst c18
   have H1 : (cohousinglaw05_PiecewiseOrder.j0 k l0 l1 t599 t601 true) = some r := by rw [if_neg (show ¬ (false = true) by decide)] at H; exact H
   clear H
   have H := H1
   clear H1
   have H' := mk_ H
   clear H
   obtain ⟨Ao33, co33, eo33⟩ := Kd.R_slice HO605.out
   subst eo33
   go_wp2_with (first | (go_at_call 15; (with_reducible refine (cohousingref05_Valid.calls k _ _ t602 false _ ?side1 ?side2 A17.out).mono ?_); (case side1 => exact cc_ ((Kd.R_reads' HO605.out).2.2)); (case side2 => exact (Kd.R_reads' HO605.out).2.1); rintro e w34 ⟨rfl, hb⟩; have n0_ := mk_ (Kd.R_below (rr_ HO605) hb); have n1_ := mk_ (Kd.R_below (rr_ HO609) hb); have n2_ := mk_ (below_step (bb_ HB) hb); clear HO605 HO609 HB; revert n0_ n1_ n2_; intro HO605 HO609 HB; (try clear hb); (try clear hb2); (try clear hk); (try clear hi)))
   go_meet
   case rel => exact ⟨_, (true), sd_, H', ⟨by first | omega | exact Nat.le_refl _⟩, ⟨bb_ HB⟩⟩
  subst c18
  have H1 : ((cohousingref05_Valid.f k t606).bind fun t611 => (if t611 = true then ((cohousingref05_Value.f k t602 t601).bind fun bt612 => ((cohousingref05_Value.f k t606 t601).bind fun bt614 => (cohousinglaw05_PiecewiseOrder.j0 k l0 l1 t599 t601 (!(bt612.1 == bt614.1) || (!(bt612.2 == bt614.2)))))) else (cohousinglaw05_PiecewiseOrder.j0 k l0 l1 t599 t601 true))) = some r := by rw [if_pos rfl] at H; exact H
  clear H
  have H := H1
  clear H1
  replace H := Option.bind_eq_some_iff.mp H
  obtain ⟨t611, A190, H⟩ := H
  replace H : (if t611 = true then ((cohousingref05_Value.f k t602 t601).bind fun bt612 => ((cohousingref05_Value.f k t606 t601).bind fun bt614 => (cohousinglaw05_PiecewiseOrder.j0 k l0 l1 t599 t601 (!(bt612.1 == bt614.1) || (!(bt612.2 == bt614.2)))))) else (cohousinglaw05_PiecewiseOrder.j0 k l0 l1 t599 t601 true)) = some r := H
  have A19 := mk_ A190
  clear A190
  by_cases c20 : t611 = true
  rotate_left
  ·replace c20 := Bool.eq_false_iff.mpr c20
   subst c20
   have H1 : (cohousinglaw05_PiecewiseOrder.j0 k l0 l1 t599 t601 true) = some r := by rw [if_neg (show ¬ (false = true) by decide)] at H; exact H
   clear H
   have H := H1
   clear H1
   have H' := mk_ H
   clear H
   obtain ⟨Ao29, co29, eo29⟩ := Kd.R_slice HO605.out
   subst eo29
   go_wp2_with (first | (go_at_call 15; (with_reducible refine (cohousingref05_Valid.calls k _ _ t602 true _ ?side1 ?side2 A17.out).mono ?_); (case side1 => exact cc_ ((Kd.R_reads' HO605.out).2.2)); (case side2 => exact (Kd.R_reads' HO605.out).2.1); rintro e w30 ⟨rfl, hb⟩; have n0_ := mk_ (Kd.R_below (rr_ HO605) hb); have n1_ := mk_ (Kd.R_below (rr_ HO609) hb); have n2_ := mk_ (below_step (bb_ HB) hb); clear HO605 HO609 HB; revert n0_ n1_ n2_; intro HO605 HO609 HB; (try clear hb); (try clear hb2); (try clear hk); (try clear hi); obtain ⟨Ao31, co31, eo31⟩ := Kd.R_slice HO609.out; subst eo31) | (go_at_call 15; (with_reducible refine (cohousingref05_Valid.calls k _ _ t606 false _ ?side1 ?side2 A19.out).mono ?_); (case side1 => exact cc_ ((Kd.R_reads' HO609.out).2.2)); (case side2 => exact (Kd.R_reads' HO609.out).2.1); rintro e w32 ⟨rfl, hb⟩; have n0_ := mk_ (Kd.R_below (rr_ HO605) hb); have n1_ := mk_ (Kd.R_below (rr_ HO609) hb); have n2_ := mk_ (below_step (bb_ HB) hb); clear HO605 HO609 HB; revert n0_ n1_ n2_; intro HO605 HO609 HB; (try clear hb); (try clear hb2); (try clear hk); (try clear hi)))
   go_meet
   case rel => exact ⟨_, (true), sd_, H', ⟨by first | omega | exact Nat.le_refl _⟩, ⟨bb_ HB⟩⟩
  subst c20
  have H1 : ((cohousingref05_Value.f k t602 t601).bind fun bt612 => ((cohousingref05_Value.f k t606 t601).bind fun bt614 => (cohousinglaw05_PiecewiseOrder.j0 k l0 l1 t599 t601 (!(bt612.1 == bt614.1) || (!(bt612.2 == bt614.2)))))) = some r := by rw [if_pos rfl] at H; exact H
  clear H
  have H := H1
  clear H1
  replace H := Option.bind_eq_some_iff.mp H
  obtain ⟨⟨t612, t613⟩, A210, H⟩ := H
  replace H : ((cohousingref05_Value.f k t606 t601).bind fun bt614 => (cohousinglaw05_PiecewiseOrder.j0 k l0 l1 t599 t601 (!(t612 == bt614.1) || (!(t613 == bt614.2))))) = some r := H
  have A21 := mk_ A210
  clear A210
  replace H := Option.bind_eq_some_iff.mp H
  obtain ⟨⟨t614, t615⟩, A220, H⟩ := H
  replace H : (cohousinglaw05_PiecewiseOrder.j0 k l0 l1 t599 t601 (!(t612 == t614) || (!(t613 == t615)))) = some r := H
  have A22 := mk_ A220
  clear A220
  have H' := mk_ H
  clear H
  obtain ⟨Ao23, co23, eo23⟩ := Kd.R_slice HO605.out
  subst eo23
  go_wp2_with (first | (go_at_call 15; (with_reducible refine (cohousingref05_Valid.calls k _ _ t602 true _ ?side1 ?side2 A17.out).mono ?_); (case side1 => exact cc_ ((Kd.R_reads' HO605.out).2.2)); (case side2 => exact (Kd.R_reads' HO605.out).2.1); rintro e w24 ⟨rfl, hb⟩; have n0_ := mk_ (Kd.R_below (rr_ HO605) hb); have n1_ := mk_ (Kd.R_below (rr_ HO609) hb); have n2_ := mk_ (below_step (bb_ HB) hb); clear HO605 HO609 HB; revert n0_ n1_ n2_; intro HO605 HO609 HB; (try clear hb); (try clear hb2); (try clear hk); (try clear hi); obtain ⟨Ao25, co25, eo25⟩ := Kd.R_slice HO609.out; subst eo25) | (go_at_call 15; (with_reducible refine (cohousingref05_Valid.calls k _ _ t606 true _ ?side1 ?side2 A19.out).mono ?_); (case side1 => exact cc_ ((Kd.R_reads' HO609.out).2.2)); (case side2 => exact (Kd.R_reads' HO609.out).2.1); rintro e w26 ⟨rfl, hb⟩; have n0_ := mk_ (Kd.R_below (rr_ HO605) hb); have n1_ := mk_ (Kd.R_below (rr_ HO609) hb); have n2_ := mk_ (below_step (bb_ HB) hb); clear HO605 HO609 HB; revert n0_ n1_ n2_; intro HO605 HO609 HB; (try clear hb); (try clear hb2); (try clear hk); (try clear hi)) | (go_at_call 27; (with_reducible refine (cohousingref05_Value.calls k _ _ t602 t601 t612 t613 _ ?side1 ?side2 A21.out).mono ?_); (case side1 => exact cc_ ((Kd.R_reads' HO605.out).2.2)); (case side2 => exact (Kd.R_reads' HO605.out).2.1); rintro e w27 ⟨rfl, hb⟩; have n0_ := mk_ (Kd.R_below (rr_ HO605) hb); have n1_ := mk_ (Kd.R_below (rr_ HO609) hb); have n2_ := mk_ (below_step (bb_ HB) hb); clear HO605 HO609 HB; revert n0_ n1_ n2_; intro HO605 HO609 HB; (try clear hb); (try clear hb2); (try clear hk); (try clear hi)) | (go_at_call 27; (with_reducible refine (cohousingref05_Value.calls k _ _ t606 t601 t614 t615 _ ?side1 ?side2 A22.out).mono ?_); (case side1 => exact cc_ ((Kd.R_reads' HO609.out).2.2)); (case side2 => exact (Kd.R_reads' HO609.out).2.1); rintro e w28 ⟨rfl, hb⟩; have n0_ := mk_ (Kd.R_below (rr_ HO605) hb); have n1_ := mk_ (Kd.R_below (rr_ HO609) hb); have n2_ := mk_ (below_step (bb_ HB) hb); clear HO605 HO609 HB; revert n0_ n1_ n2_; intro HO605 HO609 HB; (try clear hb); (try clear hb2); (try clear hk); (try clear hi)))
  go_meet
  case rel => exact ⟨_, ((!(t612 == t614) || (!(t613 == t615)))), sd_, H', ⟨by first | omega | exact Nat.le_refl _⟩, ⟨bb_ HB⟩⟩
 case rest =>
  clear HC10
  try clear c1; try clear c2; try clear p2; try clear c6; try clear c7; try clear c10; try clear c15; try clear c15b0; try clear c15b1; try clear c16; try clear c16b0; try clear c16b1; try clear c18; try clear c20; try clear c25; try clear c26
  obtain ⟨kq, x70_9, rfl, HA, HJ9, HB⟩ := hcut
  cases kq with
  | zero => exact absurd HA.out (by simp [cohousinglaw05_PiecewiseOrder.j0])
  | succ kj9 =>
   have H := HA.out
   clear HA
   simp only [cohousinglaw05_PiecewiseOrder.j0] at H
   by_cases c35 : x70_9 = true
   ·subst c35
    have H1 : (some false) = some r := by rw [if_pos rfl] at H; exact H
    clear H
    have H := H1
    clear H1
    obtain rfl := Option.some.inj H
    go_wp2
    go_ret
    exact ⟨ew_, bb_ HB⟩
   replace c35 := Bool.eq_false_iff.mpr c35
   subst c35
   have H1 : ((piecewise_Least.f l0 l1).bind fun bt616 => ((piecewise_Least.f l1 l0).bind fun bt620 => (if bt616.2 = 0 then (cohousinglaw05_PiecewiseOrder.j1 kj9 l0 l1 t599 t601 bt616.1 bt620.1 (bt620.2 == 0)) else (cohousinglaw05_PiecewiseOrder.j1 kj9 l0 l1 t599 t601 bt616.1 bt620.1 false)))) = some r := by rw [if_neg (show ¬ (false = true) by decide)] at H; exact H
   clear H
   have H := H1
   clear H1
   replace H := Option.bind_eq_some_iff.mp H
   obtain ⟨⟨t616, t617⟩, A360, H⟩ := H
   replace H : ((piecewise_Least.f l1 l0).bind fun bt620 => (if t617 = 0 then (cohousinglaw05_PiecewiseOrder.j1 kj9 l0 l1 t599 t601 t616 bt620.1 (bt620.2 == 0)) else (cohousinglaw05_PiecewiseOrder.j1 kj9 l0 l1 t599 t601 t616 bt620.1 false))) = some r := H
   have A36 := mk_ A360
   clear A360
   replace H := Option.bind_eq_some_iff.mp H
   obtain ⟨⟨t620, t621⟩, A370, H⟩ := H
   replace H : (if t617 = 0 then (cohousinglaw05_PiecewiseOrder.j1 kj9 l0 l1 t599 t601 t616 t620 (t621 == 0)) else (cohousinglaw05_PiecewiseOrder.j1 kj9 l0 l1 t599 t601 t616 t620 false)) = some r := H
   have A37 := mk_ A370
   clear A370
   have HC38 := mk_ H
   clear H
   go_upto_region 11 with (first | ((with_reducible refine gate_callee (f := 21) rfl ?_); refine gl_ (some 74) Try.func21 #[.slice A0 l0.length c0, .slice A1 l1.length c1] ?_; (with_reducible refine (piecewise_Least.calls _ _ l0 _ _ l1 t616 t617 _ ?side1 ?side2 ?side3 ?side4 A36.out).mono ?_); (case side1 => exact cc_ ((Kd.C_below HR0.out HB.out))); (case side2 => exact HC0.out); (case side3 => exact cc_ ((Kd.C_below HR1.out HB.out))); (case side4 => exact HC1.out); rintro e w39 ⟨v618, rfl, ho0, hb⟩; refine ⟨_, rfl, ?_⟩; have n0_ := mk_ (Kd.R_lower ho0 (below_size (bb_ HB))); have n1_ := mk_ (below_step (bb_ HB) hb); clear HB; revert n0_ n1_; intro HO619 HB; (try clear hb); (try clear hb2); (try clear hk); (try clear hi); (try clear ho0)) | ((with_reducible refine gate_callee (f := 21) rfl ?_); refine gl_ (some 80) Try.func21 #[.slice A1 l1.length c1, .slice A0 l0.length c0] ?_; (with_reducible refine (piecewise_Least.calls _ _ l1 _ _ l0 t620 t621 _ ?side1 ?side2 ?side3 ?side4 A37.out).mono ?_); (case side1 => exact cc_ ((Kd.C_below HR1.out HB.out))); (case side2 => exact HC1.out); (case side3 => exact cc_ ((Kd.C_below HR0.out HB.out))); (case side4 => exact HC0.out); rintro e w40 ⟨v622, rfl, ho0, hb⟩; refine ⟨_, rfl, ?_⟩; have n0_ := mk_ (Kd.R_elder' (rr_ HO619) (Kd.R_base ho0) hb); have n1_ := mk_ (Kd.R_lower (Kd.R_new' ho0 (Kd.R_lt (rr_ HO619))) (below_size (bb_ HB))); have n2_ := mk_ (below_step (bb_ HB) hb); clear HO619 HB; revert n0_ n1_ n2_; intro HO619 HO623 HB; (try clear hb); (try clear hb2); (try clear hk); (try clear hi); (try clear ho0)))
   (try simp only [Act.put, sI_, s0_, sS_])
   go_cut [88] (fun v88 wc => ∃ (kq : Nat) (x88_37 : Bool), v88 = .bool x88_37 ∧ Aside0 (cohousinglaw05_PiecewiseOrder.j1 kq l0 l1 t599 t601 t616 t620 x88_37 = some r) ∧ Aside0 (kq ≤ kj9) ∧ Aside0 (Kd.R k51 51 wc w.heap.size (fun k_ => some k_ ≠ (v622 : Value).ownBlock) v618 t616) ∧ Aside0 (Kd.R k51 51 wc w.heap.size (fun k_ => some k_ ≠ (v618 : Value).ownBlock) v622 t620) ∧ Aside0 (Below w.heap.size w wc))
   case first =>
    have H := HC38.out
    clear HC38
    by_cases c41 : t617 = 0
    rotate_left
    ·rw [if_neg c41] at H
     have c41b0 : (t617 == 0) = false := beq_eq_false_iff_ne.mpr c41
     have c41b1 : (t617 != 0) = true := bne_iff_ne.mpr c41
     (first | rw [c41b0] | (simp only [i64_w, i32_w]; rw [c41b0]) | skip)
     have H' := mk_ H
     clear H
     go_wp2
     go_meet
     case rel => exact ⟨_, (false), sd_, H', ⟨by have := HJ9.out; first | omega | exact Nat.le_refl _⟩, ⟨by (with_reducible repeat (first | apply Kd.R_alloc | apply Kd.R_drewN | apply Kd.R_drew)); exact Kd.R_mono HO619.out (fun _ hk => hk.2)⟩, ⟨by (with_reducible repeat (first | apply Kd.R_alloc | apply Kd.R_drewN | apply Kd.R_drew)); exact Kd.R_mono HO623.out (fun _ hk => hk.2)⟩, ⟨bb_ HB⟩⟩
    rw [if_pos c41] at H
    have c41b0 : (t617 == 0) = true := beq_iff_eq.mpr c41
    have c41b1 : (t617 != 0) = false := bne_eq_false_iff_eq.mpr c41
    clear c41
    (first | rw [c41b0] | (simp only [i64_w, i32_w]; rw [c41b0]) | skip)
    have H' := mk_ H
    clear H
    go_wp2
    go_meet
    case rel => exact ⟨_, ((t621 == 0)), sd_, H', ⟨by have := HJ9.out; first | omega | exact Nat.le_refl _⟩, ⟨by (with_reducible repeat (first | apply Kd.R_alloc | apply Kd.R_drewN | apply Kd.R_drew)); exact Kd.R_mono HO619.out (fun _ hk => hk.2)⟩, ⟨by (with_reducible repeat (first | apply Kd.R_alloc | apply Kd.R_drewN | apply Kd.R_drew)); exact Kd.R_mono HO623.out (fun _ hk => hk.2)⟩, ⟨bb_ HB⟩⟩
   case rest =>
    clear HC38
    try clear c1; try clear c2; try clear p2; try clear c3; try clear c4; try clear c6; try clear c7; try clear c10; try clear c15; try clear c15b0; try clear c15b1; try clear c16; try clear c16b0; try clear c16b1; try clear c18; try clear c20; try clear c21; try clear c25; try clear c26; try clear c35; try clear c41; try clear c41b0; try clear c41b1; try clear p2
    obtain ⟨kq, x88_37, rfl, HA, HJ37, HO_13, HO_15, HB⟩ := hcut
    cases kq with
    | zero => exact absurd HA.out (by simp [cohousinglaw05_PiecewiseOrder.j1])
    | succ kj37 =>
     have H := HA.out
     clear HA
     simp only [cohousinglaw05_PiecewiseOrder.j1] at H
     have HC42 := mk_ H
     clear H
     go_upto_if 88 with (fail)
     go_cut [7] (fun v7 wc => ∃ (kq : Nat) (x7_41 : Bool), v7 = .bool x7_41 ∧ Aside0 (cohousinglaw05_PiecewiseOrder.j3 kq l0 x7_41 t601 = some r) ∧ Aside0 (kq ≤ kj37) ∧ Aside0 (Below w.heap.size w wc))
     case first =>
      have H := HC42.out
      clear HC42
      by_cases c43 : x88_37 = true
      rotate_left
      ·replace c43 := Bool.eq_false_iff.mpr c43
       subst c43
       have H1 : (cohousinglaw05_PiecewiseOrder.j3 kj37 l0 t599 t601) = some r := by rw [if_neg (show ¬ (false = true) by decide)] at H; exact H
       clear H
       have H := H1
       clear H1
       have H' := mk_ H
       clear H
       go_wp2
       go_meet
       case rel => exact ⟨_, (t599), sd_, H', ⟨by have := HJ9.out; have := HJ37.out; first | omega | exact Nat.le_refl _⟩, ⟨bb_ HB⟩⟩
      subst c43
      have H1 : ((cohousingref05_Valid.f kj37 t616).bind fun t624 => (if t624 = true then ((cohousingref05_Valid.f kj37 t620).bind fun t625 => (if t625 = true then ((cohousingref05_Value.f kj37 t616 t601).bind fun bt626 => ((cohousingref05_Value.f kj37 t620 t601).bind fun bt628 => (cohousinglaw05_PiecewiseOrder.j2 kj37 l0 l1 t599 t601 t616 (!(bt626.1 == bt628.1) || (!(bt626.2 == bt628.2)))))) else (cohousinglaw05_PiecewiseOrder.j2 kj37 l0 l1 t599 t601 t616 true))) else (cohousinglaw05_PiecewiseOrder.j2 kj37 l0 l1 t599 t601 t616 true))) = some r := by rw [if_pos rfl] at H; exact H
      clear H
      have H := H1
      clear H1
      have HC44 := mk_ H
      clear H
      go_upto_region 12 with (fail)
      go_cut [105] (fun v105 wc => ∃ (kq : Nat) (x105_43 : Bool), v105 = .bool x105_43 ∧ Aside0 (cohousinglaw05_PiecewiseOrder.j2 kq l0 l1 t599 t601 t616 x105_43 = some r) ∧ Aside0 (kq ≤ kj37) ∧ Aside0 (Kd.R k51 51 wc w.heap.size (fun _ => True) v618 t616) ∧ Aside0 (Below w.heap.size w wc))
      case first =>
       have H := HC44.out
       clear HC44
       replace H := Option.bind_eq_some_iff.mp H
       obtain ⟨t624, A450, H⟩ := H
       replace H : (if t624 = true then ((cohousingref05_Valid.f kj37 t620).bind fun t625 => (if t625 = true then ((cohousingref05_Value.f kj37 t616 t601).bind fun bt626 => ((cohousingref05_Value.f kj37 t620 t601).bind fun bt628 => (cohousinglaw05_PiecewiseOrder.j2 kj37 l0 l1 t599 t601 t616 (!(bt626.1 == bt628.1) || (!(bt626.2 == bt628.2)))))) else (cohousinglaw05_PiecewiseOrder.j2 kj37 l0 l1 t599 t601 t616 true))) else (cohousinglaw05_PiecewiseOrder.j2 kj37 l0 l1 t599 t601 t616 true)) = some r := H
       have A45 := mk_ A450
       clear A450
       by_cases c46 : t624 = true
       rotate_left
       ·replace c46 := Bool.eq_false_iff.mpr c46
        subst c46
        have H1 : (cohousinglaw05_PiecewiseOrder.j2 kj37 l0 l1 t599 t601 t616 true) = some r := by rw [if_neg (show ¬ (false = true) by decide)] at H; exact H
        clear H
        have H := H1
        clear H1
        have H' := mk_ H
        clear H
        obtain ⟨Ao61, co61, eo61⟩ := Kd.R_slice HO_13.out
        subst eo61
        go_wp2_with (first | ((with_reducible refine gate_callee (f := 15) rfl ?_); refine gl_ (some 90) Try.func15 #[.slice Ao61 t616.length co61] ?_; (with_reducible refine (cohousingref05_Valid.calls kj37 _ _ t616 false _ ?side1 ?side2 A45.out).mono ?_); (case side1 => exact cc_ ((Kd.R_reads' HO_13.out).2.2)); (case side2 => exact (Kd.R_reads' HO_13.out).2.1); rintro e w62 ⟨rfl, hb⟩; refine ⟨_, rfl, ?_⟩; have n0_ := mk_ (Kd.R_below (rr_ HO_13) hb); have n1_ := mk_ (Kd.R_below (rr_ HO_15) hb); have n2_ := mk_ (below_step (bb_ HB) hb); clear HO_13 HO_15 HB; revert n0_ n1_ n2_; intro HO_13 HO_15 HB; (try clear hb); (try clear hb2); (try clear hk); (try clear hi)))
        go_meet
        case rel => exact ⟨_, (true), sd_, H', ⟨by have := HJ9.out; have := HJ37.out; first | omega | exact Nat.le_refl _⟩, ⟨by (with_reducible repeat (first | apply Kd.R_alloc | apply Kd.R_drewN | apply Kd.R_drew)); exact Kd.R_mono HO_13.out (fun _ hk => trivial)⟩, ⟨bb_ HB⟩⟩
       subst c46
       have H1 : ((cohousingref05_Valid.f kj37 t620).bind fun t625 => (if t625 = true then ((cohousingref05_Value.f kj37 t616 t601).bind fun bt626 => ((cohousingref05_Value.f kj37 t620 t601).bind fun bt628 => (cohousinglaw05_PiecewiseOrder.j2 kj37 l0 l1 t599 t601 t616 (!(bt626.1 == bt628.1) || (!(bt626.2 == bt628.2)))))) else (cohousinglaw05_PiecewiseOrder.j2 kj37 l0 l1 t599 t601 t616 true))) = some r := by rw [if_pos rfl] at H; exact H
       clear H
       have H := H1
       clear H1
       replace H := Option.bind_eq_some_iff.mp H
       obtain ⟨t625, A470, H⟩ := H
       replace H : (if t625 = true then ((cohousingref05_Value.f kj37 t616 t601).bind fun bt626 => ((cohousingref05_Value.f kj37 t620 t601).bind fun bt628 => (cohousinglaw05_PiecewiseOrder.j2 kj37 l0 l1 t599 t601 t616 (!(bt626.1 == bt628.1) || (!(bt626.2 == bt628.2)))))) else (cohousinglaw05_PiecewiseOrder.j2 kj37 l0 l1 t599 t601 t616 true)) = some r := H
       have A47 := mk_ A470
       clear A470
       by_cases c48 : t625 = true
       rotate_left
       ·replace c48 := Bool.eq_false_iff.mpr c48
        subst c48
        have H1 : (cohousinglaw05_PiecewiseOrder.j2 kj37 l0 l1 t599 t601 t616 true) = some r := by rw [if_neg (show ¬ (false = true) by decide)] at H; exact H
        clear H
        have H := H1
        clear H1
        have H' := mk_ H
        clear H
        obtain ⟨Ao57, co57, eo57⟩ := Kd.R_slice HO_13.out
        subst eo57
        go_wp2_with (first | ((with_reducible refine gate_callee (f := 15) rfl ?_); refine gl_ (some 90) Try.func15 #[.slice Ao57 t616.length co57] ?_; (with_reducible refine (cohousingref05_Valid.calls kj37 _ _ t616 true _ ?side1 ?side2 A45.out).mono ?_); (case side1 => exact cc_ ((Kd.R_reads' HO_13.out).2.2)); (case side2 => exact (Kd.R_reads' HO_13.out).2.1); rintro e w58 ⟨rfl, hb⟩; refine ⟨_, rfl, ?_⟩; have n0_ := mk_ (Kd.R_below (rr_ HO_13) hb); have n1_ := mk_ (Kd.R_below (rr_ HO_15) hb); have n2_ := mk_ (below_step (bb_ HB) hb); clear HO_13 HO_15 HB; revert n0_ n1_ n2_; intro HO_13 HO_15 HB; (try clear hb); (try clear hb2); (try clear hk); (try clear hi); obtain ⟨Ao59, co59, eo59⟩ := Kd.R_slice HO_15.out; subst eo59) | (go_at_call 15; (with_reducible refine (cohousingref05_Valid.calls kj37 _ _ t620 false _ ?side1 ?side2 A47.out).mono ?_); (case side1 => exact cc_ ((Kd.R_reads' HO_15.out).2.2)); (case side2 => exact (Kd.R_reads' HO_15.out).2.1); rintro e w60 ⟨rfl, hb⟩; have n0_ := mk_ (Kd.R_below (rr_ HO_13) hb); have n1_ := mk_ (Kd.R_below (rr_ HO_15) hb); have n2_ := mk_ (below_step (bb_ HB) hb); clear HO_13 HO_15 HB; revert n0_ n1_ n2_; intro HO_13 HO_15 HB; (try clear hb); (try clear hb2); (try clear hk); (try clear hi)))
        go_meet
        case rel => exact ⟨_, (true), sd_, H', ⟨by have := HJ9.out; have := HJ37.out; first | omega | exact Nat.le_refl _⟩, ⟨by (with_reducible repeat (first | apply Kd.R_alloc | apply Kd.R_drewN | apply Kd.R_drew)); exact Kd.R_mono HO_13.out (fun _ hk => trivial)⟩, ⟨bb_ HB⟩⟩
       subst c48
       have H1 : ((cohousingref05_Value.f kj37 t616 t601).bind fun bt626 => ((cohousingref05_Value.f kj37 t620 t601).bind fun bt628 => (cohousinglaw05_PiecewiseOrder.j2 kj37 l0 l1 t599 t601 t616 (!(bt626.1 == bt628.1) || (!(bt626.2 == bt628.2)))))) = some r := by rw [if_pos rfl] at H; exact H
       clear H
       have H := H1
       clear H1
       replace H := Option.bind_eq_some_iff.mp H
       obtain ⟨⟨t626, t627⟩, A490, H⟩ := H
       replace H : ((cohousingref05_Value.f kj37 t620 t601).bind fun bt628 => (cohousinglaw05_PiecewiseOrder.j2 kj37 l0 l1 t599 t601 t616 (!(t626 == bt628.1) || (!(t627 == bt628.2))))) = some r := H
       have A49 := mk_ A490
       clear A490
       replace H := Option.bind_eq_some_iff.mp H
       obtain ⟨⟨t628, t629⟩, A500, H⟩ := H
       replace H : (cohousinglaw05_PiecewiseOrder.j2 kj37 l0 l1 t599 t601 t616 (!(t626 == t628) || (!(t627 == t629)))) = some r := H
       have A50 := mk_ A500
       clear A500
       have H' := mk_ H
       clear H
       obtain ⟨Ao51, co51, eo51⟩ := Kd.R_slice HO_13.out
       subst eo51
       go_wp2_with (first | ((with_reducible refine gate_callee (f := 15) rfl ?_); refine gl_ (some 90) Try.func15 #[.slice Ao51 t616.length co51] ?_; (with_reducible refine (cohousingref05_Valid.calls kj37 _ _ t616 true _ ?side1 ?side2 A45.out).mono ?_); (case side1 => exact cc_ ((Kd.R_reads' HO_13.out).2.2)); (case side2 => exact (Kd.R_reads' HO_13.out).2.1); rintro e w52 ⟨rfl, hb⟩; refine ⟨_, rfl, ?_⟩; have n0_ := mk_ (Kd.R_below (rr_ HO_13) hb); have n1_ := mk_ (Kd.R_below (rr_ HO_15) hb); have n2_ := mk_ (below_step (bb_ HB) hb); clear HO_13 HO_15 HB; revert n0_ n1_ n2_; intro HO_13 HO_15 HB; (try clear hb); (try clear hb2); (try clear hk); (try clear hi); obtain ⟨Ao53, co53, eo53⟩ := Kd.R_slice HO_15.out; subst eo53) | (go_at_call 15; (with_reducible refine (cohousingref05_Valid.calls kj37 _ _ t620 true _ ?side1 ?side2 A47.out).mono ?_); (case side1 => exact cc_ ((Kd.R_reads' HO_15.out).2.2)); (case side2 => exact (Kd.R_reads' HO_15.out).2.1); rintro e w54 ⟨rfl, hb⟩; have n0_ := mk_ (Kd.R_below (rr_ HO_13) hb); have n1_ := mk_ (Kd.R_below (rr_ HO_15) hb); have n2_ := mk_ (below_step (bb_ HB) hb); clear HO_13 HO_15 HB; revert n0_ n1_ n2_; intro HO_13 HO_15 HB; (try clear hb); (try clear hb2); (try clear hk); (try clear hi)) | (go_at_call 27; (with_reducible refine (cohousingref05_Value.calls kj37 _ _ t616 t601 t626 t627 _ ?side1 ?side2 A49.out).mono ?_); (case side1 => exact cc_ ((Kd.R_reads' HO_13.out).2.2)); (case side2 => exact (Kd.R_reads' HO_13.out).2.1); rintro e w55 ⟨rfl, hb⟩; have n0_ := mk_ (Kd.R_below (rr_ HO_13) hb); have n1_ := mk_ (Kd.R_below (rr_ HO_15) hb); have n2_ := mk_ (below_step (bb_ HB) hb); clear HO_13 HO_15 HB; revert n0_ n1_ n2_; intro HO_13 HO_15 HB; (try clear hb); (try clear hb2); (try clear hk); (try clear hi)) | (go_at_call 27; (with_reducible refine (cohousingref05_Value.calls kj37 _ _ t620 t601 t628 t629 _ ?side1 ?side2 A50.out).mono ?_); (case side1 => exact cc_ ((Kd.R_reads' HO_15.out).2.2)); (case side2 => exact (Kd.R_reads' HO_15.out).2.1); rintro e w56 ⟨rfl, hb⟩; have n0_ := mk_ (Kd.R_below (rr_ HO_13) hb); have n1_ := mk_ (Kd.R_below (rr_ HO_15) hb); have n2_ := mk_ (below_step (bb_ HB) hb); clear HO_13 HO_15 HB; revert n0_ n1_ n2_; intro HO_13 HO_15 HB; (try clear hb); (try clear hb2); (try clear hk); (try clear hi)))
       go_meet
       case rel => exact ⟨_, ((!(t626 == t628) || (!(t627 == t629)))), sd_, H', ⟨by have := HJ9.out; have := HJ37.out; first | omega | exact Nat.le_refl _⟩, ⟨by (with_reducible repeat (first | apply Kd.R_alloc | apply Kd.R_drewN | apply Kd.R_drew)); exact Kd.R_mono HO_13.out (fun _ hk => trivial)⟩, ⟨bb_ HB⟩⟩
      case rest =>
       clear HC44
       try clear c1; try clear c2; try clear p2; try clear c3; try clear c4; try clear c6; try clear c7; try clear c10; try clear c15; try clear c15b0; try clear c15b1; try clear c16; try clear c16b0; try clear c16b1; try clear c18; try clear c20; try clear c21; try clear c25; try clear c26; try clear c35; try clear c41; try clear c41b0; try clear c41b1; try clear c43; try clear c46; try clear c48; try clear p2
       obtain ⟨kq, x105_43, rfl, HA, HJ43, HO_13, HB⟩ := hcut
       cases kq with
       | zero => exact absurd HA.out (by simp [cohousinglaw05_PiecewiseOrder.j2])
       | succ kj43 =>
        have H := HA.out
        clear HA
        simp only [cohousinglaw05_PiecewiseOrder.j2] at H
        by_cases c63 : x105_43 = true
        ·subst c63
         have H1 : (some false) = some r := by rw [if_pos rfl] at H; exact H
         clear H
         have H := H1
         clear H1
         obtain rfl := Option.some.inj H
         go_wp2
         go_ret
         exact ⟨ew_, bb_ HB⟩
        replace c63 := Bool.eq_false_iff.mpr c63
        subst c63
        have H1 : ((piecewise_Below.f l0 t616 0 100000).bind fun bt630 => ((piecewise_Below.f l1 t616 0 100000).bind fun bt633 => (if t599 = true then (if bt630.2.2 = 0 then (if bt633.2.2 = 0 then (if bt630.2.1 = true then (cohousinglaw05_PiecewiseOrder.j3 kj43 l0 false t601) else (cohousinglaw05_PiecewiseOrder.j3 kj43 l0 (!bt633.2.1) t601)) else (cohousinglaw05_PiecewiseOrder.j3 kj43 l0 false t601)) else (cohousinglaw05_PiecewiseOrder.j3 kj43 l0 false t601)) else (cohousinglaw05_PiecewiseOrder.j3 kj43 l0 false t601)))) = some r := by rw [if_neg (show ¬ (false = true) by decide)] at H; exact H
        clear H
        have H := H1
        clear H1
        replace H := Option.bind_eq_some_iff.mp H
        obtain ⟨⟨t630, t631, t632⟩, A640, H⟩ := H
        replace H : ((piecewise_Below.f l1 t616 0 100000).bind fun bt633 => (if t599 = true then (if t632 = 0 then (if bt633.2.2 = 0 then (if t631 = true then (cohousinglaw05_PiecewiseOrder.j3 kj43 l0 false t601) else (cohousinglaw05_PiecewiseOrder.j3 kj43 l0 (!bt633.2.1) t601)) else (cohousinglaw05_PiecewiseOrder.j3 kj43 l0 false t601)) else (cohousinglaw05_PiecewiseOrder.j3 kj43 l0 false t601)) else (cohousinglaw05_PiecewiseOrder.j3 kj43 l0 false t601))) = some r := H
        have A64 := mk_ A640
        clear A640
        replace H := Option.bind_eq_some_iff.mp H
        obtain ⟨⟨t633, t634, t635⟩, A650, H⟩ := H
        replace H : (if t599 = true then (if t632 = 0 then (if t635 = 0 then (if t631 = true then (cohousinglaw05_PiecewiseOrder.j3 kj43 l0 false t601) else (cohousinglaw05_PiecewiseOrder.j3 kj43 l0 (!t634) t601)) else (cohousinglaw05_PiecewiseOrder.j3 kj43 l0 false t601)) else (cohousinglaw05_PiecewiseOrder.j3 kj43 l0 false t601)) else (cohousinglaw05_PiecewiseOrder.j3 kj43 l0 false t601)) = some r := H
        have A65 := mk_ A650
        clear A650
        by_cases c66 : t599 = true
        rotate_left
        ·replace c66 := Bool.eq_false_iff.mpr c66
         subst c66
         have H1 : (cohousinglaw05_PiecewiseOrder.j3 kj43 l0 false t601) = some r := by rw [if_neg (show ¬ (false = true) by decide)] at H; exact H
         clear H
         have H := H1
         clear H1
         have H' := mk_ H
         clear H
         obtain ⟨Ao82, co82, eo82⟩ := Kd.R_slice HO_13.out
         subst eo82
         go_wp2_with (first | ((with_reducible refine gate_callee (f := 23) rfl ?_); refine gl_ (some 110) Try.func23 #[.slice A0 l0.length c0, .slice Ao82 t616.length co82, .agg #[.int .i64 0, .int .i64 100000]] ?_; (with_reducible refine (piecewise_Below.calls _ _ l0 _ _ t616 0 100000 t630 t631 t632 _ ?side1 ?side2 ?side3 ?side4 A64.out).mono ?_); (case side1 => exact cc_ ((Kd.C_below HR0.out HB.out))); (case side2 => exact HC0.out); (case side3 => exact cc_ ((Kd.R_reads' HO_13.out).2.2)); (case side4 => exact (Kd.R_reads' HO_13.out).2.1); rintro e w83 ⟨rfl, hb⟩; refine ⟨_, rfl, ?_⟩; have n0_ := mk_ (Kd.R_below (rr_ HO_13) hb); have n1_ := mk_ (below_step (bb_ HB) hb); clear HO_13 HB; revert n0_ n1_; intro HO_13 HB; (try clear hb); (try clear hb2); (try clear hk); (try clear hi)) | ((with_reducible refine gate_callee (f := 23) rfl ?_); refine gl_ (some 118) Try.func23 #[.slice A1 l1.length c1, .slice Ao82 t616.length co82, .agg #[.int .i64 0, .int .i64 100000]] ?_; (with_reducible refine (piecewise_Below.calls _ _ l1 _ _ t616 0 100000 t633 t634 t635 _ ?side1 ?side2 ?side3 ?side4 A65.out).mono ?_); (case side1 => exact cc_ ((Kd.C_below HR1.out HB.out))); (case side2 => exact HC1.out); (case side3 => exact cc_ ((Kd.R_reads' HO_13.out).2.2)); (case side4 => exact (Kd.R_reads' HO_13.out).2.1); rintro e w84 ⟨rfl, hb⟩; refine ⟨_, rfl, ?_⟩; have n0_ := mk_ (Kd.R_below (rr_ HO_13) hb); have n1_ := mk_ (below_step (bb_ HB) hb); clear HO_13 HB; revert n0_ n1_; intro HO_13 HB; (try clear hb); (try clear hb2); (try clear hk); (try clear hi)))
         go_meet
         case rel => exact ⟨_, (false), sd_, H', ⟨by have := HJ9.out; have := HJ37.out; have := HJ43.out; first | omega | exact Nat.le_refl _⟩, ⟨bb_ HB⟩⟩
        subst c66
        have H1 : (if t632 = 0 then (if t635 = 0 then (if t631 = true then (cohousinglaw05_PiecewiseOrder.j3 kj43 l0 false t601) else (cohousinglaw05_PiecewiseOrder.j3 kj43 l0 (!t634) t601)) else (cohousinglaw05_PiecewiseOrder.j3 kj43 l0 false t601)) else (cohousinglaw05_PiecewiseOrder.j3 kj43 l0 false t601)) = some r := by rw [if_pos rfl] at H; exact H
        clear H
        have H := H1
        clear H1
        by_cases c67 : t632 = 0
        rotate_left
        ·rw [if_neg c67] at H
         have c67b0 : (t632 == 0) = false := beq_eq_false_iff_ne.mpr c67
         have c67b1 : (t632 != 0) = true := bne_iff_ne.mpr c67
         have H' := mk_ H
         clear H
         obtain ⟨Ao79, co79, eo79⟩ := Kd.R_slice HO_13.out
         subst eo79
         go_wp2_with (first | ((with_reducible refine gate_callee (f := 23) rfl ?_); refine gl_ (some 110) Try.func23 #[.slice A0 l0.length c0, .slice Ao79 t616.length co79, .agg #[.int .i64 0, .int .i64 100000]] ?_; (with_reducible refine (piecewise_Below.calls _ _ l0 _ _ t616 0 100000 t630 t631 t632 _ ?side1 ?side2 ?side3 ?side4 A64.out).mono ?_); (case side1 => exact cc_ ((Kd.C_below HR0.out HB.out))); (case side2 => exact HC0.out); (case side3 => exact cc_ ((Kd.R_reads' HO_13.out).2.2)); (case side4 => exact (Kd.R_reads' HO_13.out).2.1); rintro e w80 ⟨rfl, hb⟩; refine ⟨_, rfl, ?_⟩; have n0_ := mk_ (Kd.R_below (rr_ HO_13) hb); have n1_ := mk_ (below_step (bb_ HB) hb); clear HO_13 HB; revert n0_ n1_; intro HO_13 HB; (try clear hb); (try clear hb2); (try clear hk); (try clear hi)) | ((with_reducible refine gate_callee (f := 23) rfl ?_); refine gl_ (some 118) Try.func23 #[.slice A1 l1.length c1, .slice Ao79 t616.length co79, .agg #[.int .i64 0, .int .i64 100000]] ?_; (with_reducible refine (piecewise_Below.calls _ _ l1 _ _ t616 0 100000 t633 t634 t635 _ ?side1 ?side2 ?side3 ?side4 A65.out).mono ?_); (case side1 => exact cc_ ((Kd.C_below HR1.out HB.out))); (case side2 => exact HC1.out); (case side3 => exact cc_ ((Kd.R_reads' HO_13.out).2.2)); (case side4 => exact (Kd.R_reads' HO_13.out).2.1); rintro e w81 ⟨rfl, hb⟩; refine ⟨_, rfl, ?_⟩; have n0_ := mk_ (Kd.R_below (rr_ HO_13) hb); have n1_ := mk_ (below_step (bb_ HB) hb); clear HO_13 HB; revert n0_ n1_; intro HO_13 HB; (try clear hb); (try clear hb2); (try clear hk); (try clear hi)))
         go_meet
         case rel => exact ⟨_, (false), sd_, H', ⟨by have := HJ9.out; have := HJ37.out; have := HJ43.out; first | omega | exact Nat.le_refl _⟩, ⟨bb_ HB⟩⟩
        rw [if_pos c67] at H
        have c67b0 : (t632 == 0) = true := beq_iff_eq.mpr c67
        have c67b1 : (t632 != 0) = false := bne_eq_false_iff_eq.mpr c67
        clear c67
        by_cases c68 : t635 = 0
        rotate_left
        ·rw [if_neg c68] at H
         have c68b0 : (t635 == 0) = false := beq_eq_false_iff_ne.mpr c68
         have c68b1 : (t635 != 0) = true := bne_iff_ne.mpr c68
         have H' := mk_ H
         clear H
         obtain ⟨Ao76, co76, eo76⟩ := Kd.R_slice HO_13.out
         subst eo76
         go_wp2_with (first | ((with_reducible refine gate_callee (f := 23) rfl ?_); refine gl_ (some 110) Try.func23 #[.slice A0 l0.length c0, .slice Ao76 t616.length co76, .agg #[.int .i64 0, .int .i64 100000]] ?_; (with_reducible refine (piecewise_Below.calls _ _ l0 _ _ t616 0 100000 t630 t631 t632 _ ?side1 ?side2 ?side3 ?side4 A64.out).mono ?_); (case side1 => exact cc_ ((Kd.C_below HR0.out HB.out))); (case side2 => exact HC0.out); (case side3 => exact cc_ ((Kd.R_reads' HO_13.out).2.2)); (case side4 => exact (Kd.R_reads' HO_13.out).2.1); rintro e w77 ⟨rfl, hb⟩; refine ⟨_, rfl, ?_⟩; have n0_ := mk_ (Kd.R_below (rr_ HO_13) hb); have n1_ := mk_ (below_step (bb_ HB) hb); clear HO_13 HB; revert n0_ n1_; intro HO_13 HB; (try clear hb); (try clear hb2); (try clear hk); (try clear hi)) | ((with_reducible refine gate_callee (f := 23) rfl ?_); refine gl_ (some 118) Try.func23 #[.slice A1 l1.length c1, .slice Ao76 t616.length co76, .agg #[.int .i64 0, .int .i64 100000]] ?_; (with_reducible refine (piecewise_Below.calls _ _ l1 _ _ t616 0 100000 t633 t634 t635 _ ?side1 ?side2 ?side3 ?side4 A65.out).mono ?_); (case side1 => exact cc_ ((Kd.C_below HR1.out HB.out))); (case side2 => exact HC1.out); (case side3 => exact cc_ ((Kd.R_reads' HO_13.out).2.2)); (case side4 => exact (Kd.R_reads' HO_13.out).2.1); rintro e w78 ⟨rfl, hb⟩; refine ⟨_, rfl, ?_⟩; have n0_ := mk_ (Kd.R_below (rr_ HO_13) hb); have n1_ := mk_ (below_step (bb_ HB) hb); clear HO_13 HB; revert n0_ n1_; intro HO_13 HB; (try clear hb); (try clear hb2); (try clear hk); (try clear hi)))
         go_meet
         case rel => exact ⟨_, (false), sd_, H', ⟨by have := HJ9.out; have := HJ37.out; have := HJ43.out; first | omega | exact Nat.le_refl _⟩, ⟨bb_ HB⟩⟩
        rw [if_pos c68] at H
        have c68b0 : (t635 == 0) = true := beq_iff_eq.mpr c68
        have c68b1 : (t635 != 0) = false := bne_eq_false_iff_eq.mpr c68
        clear c68
        by_cases c69 : t631 = true
        ·subst c69
         have H1 : (cohousinglaw05_PiecewiseOrder.j3 kj43 l0 false t601) = some r := by rw [if_pos rfl] at H; exact H
         clear H
         have H := H1
         clear H1
         have H' := mk_ H
         clear H
         obtain ⟨Ao70, co70, eo70⟩ := Kd.R_slice HO_13.out
         subst eo70
         go_wp2_with (first | ((with_reducible refine gate_callee (f := 23) rfl ?_); refine gl_ (some 110) Try.func23 #[.slice A0 l0.length c0, .slice Ao70 t616.length co70, .agg #[.int .i64 0, .int .i64 100000]] ?_; (with_reducible refine (piecewise_Below.calls _ _ l0 _ _ t616 0 100000 t630 true t632 _ ?side1 ?side2 ?side3 ?side4 A64.out).mono ?_); (case side1 => exact cc_ ((Kd.C_below HR0.out HB.out))); (case side2 => exact HC0.out); (case side3 => exact cc_ ((Kd.R_reads' HO_13.out).2.2)); (case side4 => exact (Kd.R_reads' HO_13.out).2.1); rintro e w71 ⟨rfl, hb⟩; refine ⟨_, rfl, ?_⟩; have n0_ := mk_ (Kd.R_below (rr_ HO_13) hb); have n1_ := mk_ (below_step (bb_ HB) hb); clear HO_13 HB; revert n0_ n1_; intro HO_13 HB; (try clear hb); (try clear hb2); (try clear hk); (try clear hi)) | ((with_reducible refine gate_callee (f := 23) rfl ?_); refine gl_ (some 118) Try.func23 #[.slice A1 l1.length c1, .slice Ao70 t616.length co70, .agg #[.int .i64 0, .int .i64 100000]] ?_; (with_reducible refine (piecewise_Below.calls _ _ l1 _ _ t616 0 100000 t633 t634 t635 _ ?side1 ?side2 ?side3 ?side4 A65.out).mono ?_); (case side1 => exact cc_ ((Kd.C_below HR1.out HB.out))); (case side2 => exact HC1.out); (case side3 => exact cc_ ((Kd.R_reads' HO_13.out).2.2)); (case side4 => exact (Kd.R_reads' HO_13.out).2.1); rintro e w72 ⟨rfl, hb⟩; refine ⟨_, rfl, ?_⟩; have n0_ := mk_ (Kd.R_below (rr_ HO_13) hb); have n1_ := mk_ (below_step (bb_ HB) hb); clear HO_13 HB; revert n0_ n1_; intro HO_13 HB; (try clear hb); (try clear hb2); (try clear hk); (try clear hi)))
         go_meet
         case rel => exact ⟨_, (false), sd_, H', ⟨by have := HJ9.out; have := HJ37.out; have := HJ43.out; first | omega | exact Nat.le_refl _⟩, ⟨bb_ HB⟩⟩
        replace c69 := Bool.eq_false_iff.mpr c69
        subst c69
        have H1 : (cohousinglaw05_PiecewiseOrder.j3 kj43 l0 (!t634) t601) = some r := by rw [if_neg (show ¬ (false = true) by decide)] at H; exact H
        clear H
        have H := H1
        clear H1
        have H' := mk_ H
        clear H
        obtain ⟨Ao73, co73, eo73⟩ := Kd.R_slice HO_13.out
        subst eo73
        go_wp2_with (first | ((with_reducible refine gate_callee (f := 23) rfl ?_); refine gl_ (some 110) Try.func23 #[.slice A0 l0.length c0, .slice Ao73 t616.length co73, .agg #[.int .i64 0, .int .i64 100000]] ?_; (with_reducible refine (piecewise_Below.calls _ _ l0 _ _ t616 0 100000 t630 false t632 _ ?side1 ?side2 ?side3 ?side4 A64.out).mono ?_); (case side1 => exact cc_ ((Kd.C_below HR0.out HB.out))); (case side2 => exact HC0.out); (case side3 => exact cc_ ((Kd.R_reads' HO_13.out).2.2)); (case side4 => exact (Kd.R_reads' HO_13.out).2.1); rintro e w74 ⟨rfl, hb⟩; refine ⟨_, rfl, ?_⟩; have n0_ := mk_ (Kd.R_below (rr_ HO_13) hb); have n1_ := mk_ (below_step (bb_ HB) hb); clear HO_13 HB; revert n0_ n1_; intro HO_13 HB; (try clear hb); (try clear hb2); (try clear hk); (try clear hi)) | ((with_reducible refine gate_callee (f := 23) rfl ?_); refine gl_ (some 118) Try.func23 #[.slice A1 l1.length c1, .slice Ao73 t616.length co73, .agg #[.int .i64 0, .int .i64 100000]] ?_; (with_reducible refine (piecewise_Below.calls _ _ l1 _ _ t616 0 100000 t633 t634 t635 _ ?side1 ?side2 ?side3 ?side4 A65.out).mono ?_); (case side1 => exact cc_ ((Kd.C_below HR1.out HB.out))); (case side2 => exact HC1.out); (case side3 => exact cc_ ((Kd.R_reads' HO_13.out).2.2)); (case side4 => exact (Kd.R_reads' HO_13.out).2.1); rintro e w75 ⟨rfl, hb⟩; refine ⟨_, rfl, ?_⟩; have n0_ := mk_ (Kd.R_below (rr_ HO_13) hb); have n1_ := mk_ (below_step (bb_ HB) hb); clear HO_13 HB; revert n0_ n1_; intro HO_13 HB; (try clear hb); (try clear hb2); (try clear hk); (try clear hi)))
        go_meet
        case rel => exact ⟨_, (!t634), sd_, H', ⟨by have := HJ9.out; have := HJ37.out; have := HJ43.out; first | omega | exact Nat.le_refl _⟩, ⟨bb_ HB⟩⟩
     case rest =>
      clear HC42
      try clear c1; try clear c2; try clear p2; try clear c3; try clear c4; try clear c6; try clear c7; try clear c10; try clear c15; try clear c15b0; try clear c15b1; try clear c16; try clear c16b0; try clear c16b1; try clear c18; try clear c20; try clear c21; try clear c23; try clear c25; try clear c26; try clear c35; try clear c41; try clear c41b0; try clear c41b1; try clear c43; try clear c46; try clear c48; try clear c63; try clear c66; try clear c67; try clear c67b0; try clear c67b1; try clear c68; try clear c68b0; try clear c68b1; try clear c69; try clear p2
      obtain ⟨kq, x7_41, rfl, HA, HJ41, HB⟩ := hcut
      cases kq with
      | zero => exact absurd HA.out (by simp [cohousinglaw05_PiecewiseOrder.j3])
      | succ kj41 =>
       have H := HA.out
       clear HA
       simp only [cohousinglaw05_PiecewiseOrder.j3] at H
       replace H := Option.bind_eq_some_iff.mp H
       obtain ⟨⟨t636, t637⟩, A850, H⟩ := H
       replace H : (if x7_41 = true then (if t637 = 0 then ((cohousingref05_Valid.f kj41 t636).bind fun t640 => (if t640 = true then ((cohousingref05_Value.f kj41 t636 t601).bind fun bt641 => ((cohousingref05_Value.f kj41 l0 t601).bind fun bt643 => (some (bt641.1 == bt643.1 && (bt641.2 == bt643.2))))) else (some false))) else (some false)) else (some false)) = some r := H
       have A85 := mk_ A850
       clear A850
       by_cases c86 : x7_41 = true
       rotate_left
       ·replace c86 := Bool.eq_false_iff.mpr c86
        subst c86
        have H1 : (some false) = some r := by rw [if_neg (show ¬ (false = true) by decide)] at H; exact H
        clear H
        have H := H1
        clear H1
        obtain rfl := Option.some.inj H
        go_wp2_with (first | ((with_reducible refine gate_callee (f := 21) rfl ?_); refine gl_ (some 142) Try.func21 #[.slice A0 l0.length c0, .slice A0 l0.length c0] ?_; (with_reducible refine (piecewise_Least.calls _ _ l0 _ _ l0 t636 t637 _ ?side1 ?side2 ?side3 ?side4 A85.out).mono ?_); (case side1 => exact cc_ ((Kd.C_below HR0.out HB.out))); (case side2 => exact HC0.out); (case side3 => exact cc_ ((Kd.C_below HR0.out HB.out))); (case side4 => exact HC0.out); rintro e w101 ⟨v638, rfl, ho0, hb⟩; refine ⟨_, rfl, ?_⟩; have n0_ := mk_ (Kd.R_lower ho0 (below_size (bb_ HB))); have n1_ := mk_ (below_step (bb_ HB) hb); clear HB; revert n0_ n1_; intro HO639 HB; (try clear hb); (try clear hb2); (try clear hk); (try clear hi); (try clear ho0)))
        go_ret
        exact ⟨ew_, bb_ HB⟩
       subst c86
       have H1 : (if t637 = 0 then ((cohousingref05_Valid.f kj41 t636).bind fun t640 => (if t640 = true then ((cohousingref05_Value.f kj41 t636 t601).bind fun bt641 => ((cohousingref05_Value.f kj41 l0 t601).bind fun bt643 => (some (bt641.1 == bt643.1 && (bt641.2 == bt643.2))))) else (some false))) else (some false)) = some r := by rw [if_pos rfl] at H; exact H
       clear H
       have H := H1
       clear H1
       by_cases c87 : t637 = 0
       rotate_left
       ·rw [if_neg c87] at H
        have c87b0 : (t637 == 0) = false := beq_eq_false_iff_ne.mpr c87
        have c87b1 : (t637 != 0) = true := bne_iff_ne.mpr c87
        obtain rfl := Option.some.inj H
        go_wp2_with (first | ((with_reducible refine gate_callee (f := 21) rfl ?_); refine gl_ (some 142) Try.func21 #[.slice A0 l0.length c0, .slice A0 l0.length c0] ?_; (with_reducible refine (piecewise_Least.calls _ _ l0 _ _ l0 t636 t637 _ ?side1 ?side2 ?side3 ?side4 A85.out).mono ?_); (case side1 => exact cc_ ((Kd.C_below HR0.out HB.out))); (case side2 => exact HC0.out); (case side3 => exact cc_ ((Kd.C_below HR0.out HB.out))); (case side4 => exact HC0.out); rintro e w100 ⟨v638, rfl, ho0, hb⟩; refine ⟨_, rfl, ?_⟩; have n0_ := mk_ (Kd.R_lower ho0 (below_size (bb_ HB))); have n1_ := mk_ (below_step (bb_ HB) hb); clear HB; revert n0_ n1_; intro HO639 HB; (try clear hb); (try clear hb2); (try clear hk); (try clear hi); (try clear ho0)))
        go_ret
        exact ⟨ew_, bb_ HB⟩
       rw [if_pos c87] at H
       have c87b0 : (t637 == 0) = true := beq_iff_eq.mpr c87
       have c87b1 : (t637 != 0) = false := bne_eq_false_iff_eq.mpr c87
       clear c87
       replace H := Option.bind_eq_some_iff.mp H
       obtain ⟨t640, A880, H⟩ := H
       replace H : (if t640 = true then ((cohousingref05_Value.f kj41 t636 t601).bind fun bt641 => ((cohousingref05_Value.f kj41 l0 t601).bind fun bt643 => (some (bt641.1 == bt643.1 && (bt641.2 == bt643.2))))) else (some false)) = some r := H
       have A88 := mk_ A880
       clear A880
       by_cases c89 : t640 = true
       rotate_left
       ·replace c89 := Bool.eq_false_iff.mpr c89
        subst c89
        have H1 : (some false) = some r := by rw [if_neg (show ¬ (false = true) by decide)] at H; exact H
        clear H
        have H := H1
        clear H1
        obtain rfl := Option.some.inj H
        go_wp2_with (first | ((with_reducible refine gate_callee (f := 21) rfl ?_); refine gl_ (some 142) Try.func21 #[.slice A0 l0.length c0, .slice A0 l0.length c0] ?_; (with_reducible refine (piecewise_Least.calls _ _ l0 _ _ l0 t636 t637 _ ?side1 ?side2 ?side3 ?side4 A85.out).mono ?_); (case side1 => exact cc_ ((Kd.C_below HR0.out HB.out))); (case side2 => exact HC0.out); (case side3 => exact cc_ ((Kd.C_below HR0.out HB.out))); (case side4 => exact HC0.out); rintro e w97 ⟨v638, rfl, ho0, hb⟩; refine ⟨_, rfl, ?_⟩; have n0_ := mk_ (Kd.R_lower ho0 (below_size (bb_ HB))); have n1_ := mk_ (below_step (bb_ HB) hb); clear HB; revert n0_ n1_; intro HO639 HB; (try clear hb); (try clear hb2); (try clear hk); (try clear hi); (try clear ho0); obtain ⟨Ao98, co98, eo98⟩ := Kd.R_slice HO639.out; subst eo98) | (go_at_call 15; (with_reducible refine (cohousingref05_Valid.calls kj41 _ _ t636 false _ ?side1 ?side2 A88.out).mono ?_); (case side1 => exact cc_ ((Kd.R_reads' HO639.out).2.2)); (case side2 => exact (Kd.R_reads' HO639.out).2.1); rintro e w99 ⟨rfl, hb⟩; have n0_ := mk_ (Kd.R_below (rr_ HO639) hb); have n1_ := mk_ (below_step (bb_ HB) hb); clear HO639 HB; revert n0_ n1_; intro HO639 HB; (try clear hb); (try clear hb2); (try clear hk); (try clear hi)))
        go_ret
        exact ⟨ew_, bb_ HB⟩
       subst c89
       have H1 : ((cohousingref05_Value.f kj41 t636 t601).bind fun bt641 => ((cohousingref05_Value.f kj41 l0 t601).bind fun bt643 => (some (bt641.1 == bt643.1 && (bt641.2 == bt643.2))))) = some r := by rw [if_pos rfl] at H; exact H
       clear H
       have H := H1
       clear H1
       replace H := Option.bind_eq_some_iff.mp H
       obtain ⟨⟨t641, t642⟩, A900, H⟩ := H
       replace H : ((cohousingref05_Value.f kj41 l0 t601).bind fun bt643 => (some (t641 == bt643.1 && (t642 == bt643.2)))) = some r := H
       have A90 := mk_ A900
       clear A900
       replace H := Option.bind_eq_some_iff.mp H
       obtain ⟨⟨t643, t644⟩, A910, H⟩ := H
       replace H : (some (t641 == t643 && (t642 == t644))) = some r := H
       have A91 := mk_ A910
       clear A910
       obtain rfl := Option.some.inj H
       go_wp2_with (first | ((with_reducible refine gate_callee (f := 21) rfl ?_); refine gl_ (some 142) Try.func21 #[.slice A0 l0.length c0, .slice A0 l0.length c0] ?_; (with_reducible refine (piecewise_Least.calls _ _ l0 _ _ l0 t636 t637 _ ?side1 ?side2 ?side3 ?side4 A85.out).mono ?_); (case side1 => exact cc_ ((Kd.C_below HR0.out HB.out))); (case side2 => exact HC0.out); (case side3 => exact cc_ ((Kd.C_below HR0.out HB.out))); (case side4 => exact HC0.out); rintro e w92 ⟨v638, rfl, ho0, hb⟩; refine ⟨_, rfl, ?_⟩; have n0_ := mk_ (Kd.R_lower ho0 (below_size (bb_ HB))); have n1_ := mk_ (below_step (bb_ HB) hb); clear HB; revert n0_ n1_; intro HO639 HB; (try clear hb); (try clear hb2); (try clear hk); (try clear hi); (try clear ho0); obtain ⟨Ao93, co93, eo93⟩ := Kd.R_slice HO639.out; subst eo93) | (go_at_call 15; (with_reducible refine (cohousingref05_Valid.calls kj41 _ _ t636 true _ ?side1 ?side2 A88.out).mono ?_); (case side1 => exact cc_ ((Kd.R_reads' HO639.out).2.2)); (case side2 => exact (Kd.R_reads' HO639.out).2.1); rintro e w94 ⟨rfl, hb⟩; have n0_ := mk_ (Kd.R_below (rr_ HO639) hb); have n1_ := mk_ (below_step (bb_ HB) hb); clear HO639 HB; revert n0_ n1_; intro HO639 HB; (try clear hb); (try clear hb2); (try clear hk); (try clear hi)) | (go_at_call 27; (with_reducible refine (cohousingref05_Value.calls kj41 _ _ t636 t601 t641 t642 _ ?side1 ?side2 A90.out).mono ?_); (case side1 => exact cc_ ((Kd.R_reads' HO639.out).2.2)); (case side2 => exact (Kd.R_reads' HO639.out).2.1); rintro e w95 ⟨rfl, hb⟩; have n0_ := mk_ (Kd.R_below (rr_ HO639) hb); have n1_ := mk_ (below_step (bb_ HB) hb); clear HO639 HB; revert n0_ n1_; intro HO639 HB; (try clear hb); (try clear hb2); (try clear hk); (try clear hi)) | (go_at_call 27; (with_reducible refine (cohousingref05_Value.calls kj41 _ _ l0 t601 t643 t644 _ ?side1 ?side2 A91.out).mono ?_); (case side1 => exact cc_ ((Kd.C_below HR0.out HB.out))); (case side2 => exact HC0.out); rintro e w96 ⟨rfl, hb⟩; have n0_ := mk_ (Kd.R_below (rr_ HO639) hb); have n1_ := mk_ (below_step (bb_ HB) hb); clear HO639 HB; revert n0_ n1_; intro HO639 HB; (try clear hb); (try clear hb2); (try clear hk); (try clear hi)))
       go_ret
       exact ⟨ew_, bb_ HB⟩
end
end Go.Proofs.Ytmhimmodigeeiaa.P
end
section
namespace Go.Proofs.Ytmhimmodigeeiaa.P
open Go.RowKit Go.Proofs.YtmhimmodigeeiaaW.PrintWords Go.Proofs.YtmhimmodigeeiaaW.PrintLast Go.Proofs.YtmhimmodigeeiaaW.PrintMore
set_option linter.unusedVariables false
set_option linter.unusedSimpArgs false
open Classical
theorem mn_swap (a p q : Int) : mn (mn a p) q = mn (mn a q) p := by
 unfold mn
 (repeat' split) <;> first | rfl | omega
theorem nxt_swap (f g : List PC) (i k : Nat) (a : Int) : nxt g k (nxt f i a) = nxt f i (nxt g k a) := by
 unfold nxt
 by_cases h1 : i + 1 < f.length
 ·by_cases h2 : k + 1 < g.length
  ·simp only [h1, h2, if_true]
   exact mn_swap _ _ _
  ·simp only [h1, h2, if_true, if_false]
 ·by_cases h2 : k + 1 < g.length
  ·simp only [h1, h2, if_true, if_false]
  ·simp only [h1, h2, if_false]
theorem stp_swap (f g : List PC) : ∀ j, stp g f j = ((stp f g j).2.1, (stp f g j).1, (stp f g j).2.2)
 | 0 => rfl
 | j + 1 => by
  have ih := stp_swap f g j
  have hx : (stp g f (j + 1)).2.2 = (stp f g (j + 1)).2.2 := by
   rw [stp_x, stp_x, ih]
   exact nxt_swap _ _ _ _ _
  have h1 : (stp g f (j + 1)).1 = (stp f g (j + 1)).2.1 := by rw [stp_i, stp_k, hx, ih]
  have h2 : (stp g f (j + 1)).2.1 = (stp f g (j + 1)).1 := by rw [stp_i, stp_k, hx, ih]
  exact Prod.ext h1 (Prod.ext h2 hx)
theorem stM_one {f g : List PC} {M M' : Nat} (h : StOk f g M) (h' : StOk g f M') : M = M' := by
 have hx : ∀ j, (stp g f j).2.2 = (stp f g j).2.2 := fun j => by rw [stp_swap f g j]
 rcases Nat.lt_trichotomy M M' with c | c | c
 ·have a := (h'.up M c).1
  have b := h.last
  rw [hx] at a
  omega
 ·exact c
 ·have a := (h.up M' c).1
  have b := h'.last
  rw [hx] at b
  omega
theorem add_swap {f g : List PC} (M : Nat) : addEs g f M = addEs f g M := by
 unfold addEs stL
 rw [List.map_map, List.map_map]
 refine List.map_congr_left (fun j _ => ?_)
 have hj := stp_swap f g j
 show evA (stE g f j) = evA (stE f g j)
 have e1 : (stE g f j).x = (stE f g j).x := by show (stp g f j).2.2 = _; rw [hj]; rfl
 have e2 : (stE g f j).f = (stE f g j).g := by show lineL (pA g (stp g f j).1) = _; rw [hj]; rfl
 have e3 : (stE g f j).g = (stE f g j).f := by show lineL (pA f (stp g f j).2.1) = _; rw [hj]; rfl
 unfold evA sumX
 rw [e1, e2, e3, Int.add_comm, Int.add_comm ((stE f g j).g.s * _), Int.mul_comm (stE f g j).g.d]
theorem lt_same {l m m' : LN} {x : Int} (hm : 0 < m.d) (hm' : 0 < m'.d) (h : same m m') : lt l m x → lt l m' x := by
 intro h1
 unfold lt at h1 ⊢
 have h2 := h x
 have h3 := Int.mul_lt_mul_of_pos_right h1 hm'
 apply Int.lt_of_mul_lt_mul_right (a := m.d) _ (by omega)
 calc num l x * m'.d * m.d = num l x * m.d * m'.d := by rw [Int.mul_assoc, Int.mul_comm m'.d, ← Int.mul_assoc]
  _ < num m x * l.d * m'.d := h3
  _ = num m x * m'.d * l.d := by rw [Int.mul_assoc, Int.mul_comm l.d, ← Int.mul_assoc]
  _ = num m' x * m.d * l.d := by rw [h2]
  _ = num m' x * l.d * m.d := by rw [Int.mul_assoc, Int.mul_comm m.d, ← Int.mul_assoc]
theorem not_over {f g : List PC} (hf : FOk f) (hg : FOk g) {M : Nat} (hM : StOk f g M) (hM0 : 1 ≤ M) (hfo : FOk (outM none (leastEs f g M))) (hok : ∀ p ∈ outM none (leastEs f g M), POk p) (hlen : (outM none (leastEs f g M)).length ≤ 64) {y : Int} (h0 : 0 ≤ y) (h1 : y ≤ 100000) : ¬ LT f (outM none (leastEs f g M)) y ∧ ¬ LT g (outM none (leastEs f g M)) y := by
 have hes := leastEs_es hf hg hM hM0
 obtain ⟨i, hi⟩ := ex_at hf h0
 obtain ⟨k, hk⟩ := ex_at hg h0
 obtain ⟨l1, l2, l3⟩ := least_line hf hg hM h0 h1 hi hk
 obtain ⟨c, hc, hs⟩ := out_val hes hok hlen h0
 have hd := (hfo.pok hc.1).dpos
 have hd2 := lastE_d (x := y) hes
 exact ⟨fun h => l2 (lt_same hd hd2 hs ((LT_iff hf hfo hi hc).1 h)), fun h => l3 (lt_same hd hd2 hs ((LT_iff hg hfo hk hc).1 h))⟩
theorem below_none {f c : List PC} (hf : FOk f) (hc : FOk c) (h : ∀ y, 0 ≤ y → y ≤ 100000 → ¬ LT f c y) : piecewise_Below.f f c 0 100000 = some (0, false, 0) := by
 obtain ⟨r, h1, h2⟩ := below_eq hf hc (lo := 0) (hi := 100000) (by omega) (by omega) (by omega)
 rw [h1]
 congr 1
 exact isB_one h2 (.inr ⟨rfl, h⟩)
theorem stp_self {f : List PC} (hf : FOk f) : ∀ j, (stp f f j).1 = (stp f f j).2.1 := fun j => congrArg Prod.fst (stp_swap f f j)
theorem self_at {f : List PC} (hf : FOk f) : ∀ j, (stp f f j).2.2 ≤ 100000 → (stp f f j).1 = j ∧ (pA f (stp f f j).1).f0 = (stp f f j).2.2
 | 0, _ => ⟨rfl, hf.zero⟩
 | j + 1, hx => by
  have hi := inv_at hf hf j
  obtain ⟨n1, n2, n3, n4, n5, n6⟩ := nxt_in hf hf hi
  have ex := stp_x f f j
  have ek := stp_self hf j
  have hxj : (stp f f j).2.2 ≤ 100000 := by rw [ex] at hx; omega
  have ih := (self_at hf j hxj).1
  have h6 : (stp f f j).1 + 1 < f.length ∧ (stp f f (j + 1)).2.2 = (pA f ((stp f f j).1 + 1)).f0 := by
   rw [ex]
   rcases n6 with e | ⟨l, e⟩ | ⟨l, e⟩
   ·rw [ex, e] at hx; omega
   ·exact ⟨l, e⟩
   ·rw [← ek] at l e
    rw [← ek]
    exact ⟨l, e⟩
  have h7 : (stp f f (j + 1)).1 = (stp f f j).1 + 1 := by
   rw [stp_i]
   unfold adv
   exact if_pos ⟨h6.1, h6.2.symm⟩
  rw [h7]
  exact ⟨by omega, h6.2.symm⟩
theorem evL_self {f : List PC} (hf : FOk f) {M j : Nat} (hM : StOk f f M) (hj : j < M) : evL (stE f f j) = [(lineL (pA f j), (pA f j).f0)] := by
 have hs := stE_ok hf hf hM hj
 have hx : (stp f f j).2.2 ≤ 100000 := (hM.up j hj).1
 obtain ⟨a1, a2⟩ := self_at hf j hx
 have ek := stp_self hf j
 have efg : (stE f f j).g = (stE f f j).f := by show lineL (pA f (stp f f j).2.1) = lineL (pA f (stp f f j).1); rw [ek]
 have hn : ∀ y, ¬ lt (stE f f j).g (stE f f j).f y := fun y h => by rw [efg] at h; unfold lt at h; omega
 have hc := kS_chg hs
 have hlt : ¬ (stE f f j).x + kS (stE f f j) < (stE f f j).u := fun h => hc.at_ h ⟨fun h => absurd h (hn _), fun h => absurd h (hn _)⟩
 unfold evL
 rw [if_neg hlt]
 have e1 : oneS (stE f f j) = lineL (pA f j) := by
  unfold oneS
  rw [over_iff hs, if_neg (by rw [decide_eq_false (hn _)]; decide)]
  show lineL (pA f (stp f f j).1) = _
  rw [a1]
 have e2 : (stE f f j).x = (pA f j).f0 := by
  show (stp f f j).2.2 = _
  rw [← a2, a1]
 rw [e1, e2]
theorem self_ok {f : List PC} (hf : FOk f) {M : Nat} (hM : StOk f f M) (hM0 : 1 ≤ M) : resS (outM none (leastEs f f M)) = (outM none (leastEs f f M), 0) ∧ (∀ p ∈ outM none (leastEs f f M), POk p) ∧ (outM none (leastEs f f M)).length ≤ 64 := by
 have hMl : M ≤ f.length := by
  have hx := (hM.up (M - 1) (by omega)).1
  have a := (self_at hf (M - 1) hx).1
  have b := (inv_at hf hf (M - 1)).a.1
  omega
 have hev : ∀ e ∈ leastEs f f M, ∃ j, j < f.length ∧ e = (lineL (pA f j), (pA f j).f0) := fun e he => by
  unfold leastEs stL at he
  obtain ⟨s, hs, hes⟩ := List.mem_flatMap.1 he
  obtain ⟨j, hj, rfl⟩ := List.mem_map.1 hs
  have hj := List.mem_range.1 hj
  rw [evL_self hf hM hj] at hes
  exact ⟨j, by omega, List.mem_singleton.1 hes⟩
 have hok : ∀ p ∈ outM none (leastEs f f M), POk p := fun p hp => by
  obtain ⟨e, he, rfl⟩ := outM_mem hp
  obtain ⟨j, hj, rfl⟩ := hev e he
  have := hf.pok hj
  rw [pc_self this]
  exact this
 have hlen : (outM none (leastEs f f M)).length ≤ 64 := by
  have h1 := outM_len (leastEs f f M) none
  have h2 : (leastEs f f M).length ≤ M := by
   have key : ∀ n, n ≤ M → (leastEs f f n).length ≤ n := by
    intro n
    induction n with
    | zero => intro _; simp [leastEs, stL]
    | succ n ih =>
     intro hn
     rw [leastEs_succ, List.length_append, evL_self hf hM (show n < M by omega)]
     have := ih (by omega)
     simp only [List.length_singleton]
     omega
   exact key M (Nat.le_refl _)
  have := hf.few
  omega
 refine ⟨?_, hok, hlen⟩
 unfold resS
 rw [if_neg (fun ⟨p, hp, hn⟩ => hn (hok p hp)), if_neg (by omega)]
theorem min_one {l m a b : LN} {x : Int} (hl : l = a ∨ l = b) (hm : m = b ∨ m = a) (h1 : ¬ lt a l x) (h2 : ¬ lt b l x) (h3 : ¬ lt b m x) (h4 : ¬ lt a m x) : num l x * m.d = num m x * l.d := by
 have c1 : ¬ lt m l x := by rcases hm with rfl | rfl <;> assumption
 have c2 : ¬ lt l m x := by rcases hl with rfl | rfl <;> assumption
 unfold lt at c1 c2
 omega
theorem order_ (f g : List PC) (hIf : ∀ p ∈ f, IBP p) (hIg : ∀ p ∈ g, IBP p) (a : Int) (ha : 0 ≤ a ∧ a ≤ 4294967295) : Ev (fun k => cohousinglaw05_PiecewiseOrder.f k f g a) true := by
 obtain ⟨bb, hb1, hb2⟩ := both_ev f g hIf hIg
 unfold cohousinglaw05_PiecewiseOrder.f
 refine Ev.bnd head_ev (Ev.bnd hb1 ?_)
 cases bb with
 | false =>
  simp only [Bool.false_eq_true, if_false]
  exact Ev.pure _
 | true =>
  obtain ⟨hf, hg⟩ := hb2 rfl
  obtain ⟨x, hx, h0, h1⟩ := place_eq ha.1 ha.2
  obtain ⟨M, hM, hS, hM1, hM0⟩ := stM_ex hf hg
  obtain ⟨M', hM', hS', hM1', hM0'⟩ := stM_ex hg hf
  obtain rfl := stM_one hS hS'
  obtain ⟨Q, hQ, hSQ, hQ1, hQ0⟩ := stM_ex hf hf
  obtain ⟨i, hi⟩ := ex_at hf h0
  obtain ⟨k, hk⟩ := ex_at hg h0
  have hx1 : x ≤ 100001 := by omega
  have j3 : Ev (fun k => cohousinglaw05_PiecewiseOrder.j3 k f true x) true := by
   obtain ⟨s1, s2, s3⟩ := self_ok hf hSQ hQ0
   have hes := leastEs_es hf hf hSQ hQ0
   have hfo := out_fok hes s2 s3
   obtain ⟨l1, _, _⟩ := least_line hf hf hSQ h0 h1 hi hi
   have l1' : lastE x (leastEs f f Q) = lineL (pA f i) := by rcases l1 with h | h <;> exact h
   have hv := out_value hes hfo h0 hx1
   rw [l1'] at hv
   refine Ev.step ?_
   simp only [cohousinglaw05_PiecewiseOrder.j3, least_eq hf hf hQ, s1, Option.bind_some, if_true]
   refine Ev.bnd (rvalid_ev _ (fok_ib hfo)) ?_
   simp only [decide_eq_true hfo, if_true]
   refine Ev.bnd hv (Ev.bnd (value_ev hf hi h0 hx1) ?_)
   simp only [beq_self_eq_true, Bool.and_self]
   exact Ev.pure _
  have j0 : Ev (fun k => cohousinglaw05_PiecewiseOrder.j0 k f g true x false) true := by
   refine Ev.step ?_
   simp only [cohousinglaw05_PiecewiseOrder.j0, Bool.false_eq_true, if_false, least_eq hf hg hM, least_eq hg hf hM', Option.bind_some]
   have skip : ∀ c d : List PC, Ev (fun k => cohousinglaw05_PiecewiseOrder.j1 k f g true x c d false) true := fun c d => by
    refine Ev.step ?_
    simp only [cohousinglaw05_PiecewiseOrder.j1, Bool.false_eq_true, if_false]
    exact j3
   have z3 : ((3 : Int) = 0) = False := by simp
   have z2 : ((2 : Int) = 0) = False := by simp
   rcases resS_cases (outM none (leastEs f g M)) with (e | e) | ⟨e, hok, hlen⟩
   ·rw [e]
    simp only [z3, if_false]
    exact skip _ _
   ·rw [e]
    simp only [z2, if_false]
    exact skip _ _
   rw [e]
   rcases resS_cases (outM none (leastEs g f M)) with (e' | e') | ⟨e', hok', hlen'⟩
   ·rw [e']
    simp only [if_true]
    exact skip _ _
   ·rw [e']
    simp only [if_true]
    exact skip _ _
   rw [e']
   have hes := leastEs_es hf hg hS hM0
   have hes' := leastEs_es hg hf hS' hM0
   have hfo := out_fok hes hok hlen
   have hfo' := out_fok hes' hok' hlen'
   obtain ⟨l1, l2, l3⟩ := least_line hf hg hS h0 h1 hi hk
   obtain ⟨m1, m2, m3⟩ := least_line hg hf hS' h0 h1 hk hi
   have hv := out_value hes hfo h0 hx1
   have hv' := out_value hes' hfo' h0 hx1
   rw [← (red_iff (lastE_d (x := x) hes) (lastE_d (x := x) hes')).2 (min_one l1 m1 l2 l3 m2 m3)] at hv'
   simp only [if_true, beq_self_eq_true]
   refine Ev.step ?_
   simp only [cohousinglaw05_PiecewiseOrder.j1, if_true]
   refine Ev.bnd (rvalid_ev _ (fok_ib hfo)) ?_
   simp only [decide_eq_true hfo, if_true]
   refine Ev.bnd (rvalid_ev _ (fok_ib hfo')) ?_
   simp only [decide_eq_true hfo', if_true]
   refine Ev.bnd hv (Ev.bnd hv' ?_)
   simp only [beq_self_eq_true, Bool.not_true, Bool.or_self]
   refine Ev.step ?_
   have w1 := below_none hf hfo (fun y h2 h3 => (not_over hf hg hS hM0 hfo hok hlen h2 h3).1)
   have w2 := below_none hg hfo (fun y h2 h3 => (not_over hf hg hS hM0 hfo hok hlen h2 h3).2)
   simp only [cohousinglaw05_PiecewiseOrder.j2, Bool.false_eq_true, if_false, w1, w2, Option.bind_some, if_true, Bool.not_false]
   exact j3
  simp only [if_true, hx, add_eq hf hg hM, add_eq hg hf hM', add_swap, Option.bind_some]
  rcases resS_cases (outM none (addEs f g M)) with (e | e) | ⟨e, hok, hlen⟩
  ·rw [e]
   have z : ((3 : Int) = 0) = False := by simp
   simp only [z, if_false]
   exact j0
  ·rw [e]
   have z : ((2 : Int) = 0) = False := by simp
   simp only [z, if_false]
   exact j0
  ·rw [e]
   have hes := addEs_es hf hg hS hM0
   have hfo := out_fok hes hok hlen
   have hv := out_value hes hfo h0 hx1
   simp only [if_true]
   refine Ev.bnd (rvalid_ev _ (fok_ib hfo)) ?_
   simp only [decide_eq_true hfo, if_true]
   refine Ev.bnd (rvalid_ev _ (fok_ib hfo)) ?_
   simp only [decide_eq_true hfo, if_true]
   refine Ev.bnd hv (Ev.bnd hv ?_)
   simp only [beq_self_eq_true, Bool.not_true, Bool.or_self]
   exact j0
end Go.Proofs.Ytmhimmodigeeiaa.P
end
