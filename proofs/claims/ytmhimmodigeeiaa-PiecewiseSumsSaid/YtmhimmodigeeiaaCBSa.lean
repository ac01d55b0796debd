/- Part 1 of the proof of PiecewiseSums: what it alone needs. -/
import Derived.Test.YtmhimmodigeeiaaCBj
set_option linter.unusedVariables false
set_option linter.unusedSimpArgs false
section
namespace Go.Proofs.Ytmhimmodigeeiaa.P
open Go.RowKit Go.Proofs.YtmhimmodigeeiaaW.PrintWords Go.Proofs.YtmhimmodigeeiaaW.PrintLast Go.Proofs.YtmhimmodigeeiaaW.PrintMore
attribute [local go_sem] max2_int min2_int max_two min_two max_three min_three max_four min_four
set_option linter.unusedVariables false
set_option linter.unusedSimpArgs false
set_option maxHeartbeats 8000000
set_option maxRecDepth 100000
section
attribute [local go_sem high] eqA24
def cohousinglaw05_PiecewiseSums.f (k : Nat) (l0 : List (S51)) (l1 : List (S51)) (a2 : Int) : Option (Bool) := (cohousinglaw05_head.f k).bind fun t545 => ((cohousinglaw05_both.f k l0 l1).bind fun t546 => (if t546 = true then ((cohousinglaw05_place.f a2).bind fun t547 => ((piecewise_Add.f l0 l1).bind fun bt548 => (if bt548.2 = 0 then (if t545 = true then ((cohousingref05_Valid.f k bt548.1).bind fun t552 => (if t552 = true then ((cohousingref05_Value.f k bt548.1 t547).bind fun bt553 => ((cohousingref05_Value.f k l0 t547).bind fun bt555 => ((cohousingref05_Value.f k l1 t547).bind fun bt557 => ((cohousingref05_Sum.f k bt555.1 bt555.2 bt557.1 bt557.2).bind fun bt559 => (some (bt553.1 == bt559.1 && (bt553.2 == bt559.2))))))) else (some false))) else (some false)) else (if t545 = true then (if bt548.2 = 3 then (some ((bt548.1.length : Int) == 0)) else (if bt548.2 = 2 then (some ((bt548.1.length : Int) == 0)) else (some false))) else (some false))))) else (some t545)))
theorem cohousinglaw05_PiecewiseSums.calls (k : Nat) (A0 : Option Addr) (c0 : Nat) (l0 : List (S51)) (A1 : Option Addr) (c1 : Nat) (l1 : List (S51)) (a2 : Int) (r : Bool) (w : World) (hr0 : Kd.C k51 w A0 l0.length l0) (hc0 : l0.length ≤ c0) (hr1 : Kd.C k51 w A1 l1.length l1) (hc1 : l1.length ≤ c1) (h : cohousinglaw05_PiecewiseSums.f k l0 l1 a2 = some r) :
  Calls Try.prog 4 #[.slice A0 l0.length c0, .slice A1 l1.length c1, .int .u32 a2] w fun e w' => e = .returned (.bool r) ∧ Below w.heap.size w w' := by
 have HR0 := mk_ hr0
 have HC0 := mk_ hc0
 clear hr0 hc0
 have HR1 := mk_ hr1
 have HC1 := mk_ hc1
 clear hr1 hc1
 have HB := mk_ (Below.refl w.heap.size w)
 have H : ((cohousinglaw05_head.f k).bind fun t545 => ((cohousinglaw05_both.f k l0 l1).bind fun t546 => (if t546 = true then ((cohousinglaw05_place.f a2).bind fun t547 => ((piecewise_Add.f l0 l1).bind fun bt548 => (if bt548.2 = 0 then (if t545 = true then ((cohousingref05_Valid.f k bt548.1).bind fun t552 => (if t552 = true then ((cohousingref05_Value.f k bt548.1 t547).bind fun bt553 => ((cohousingref05_Value.f k l0 t547).bind fun bt555 => ((cohousingref05_Value.f k l1 t547).bind fun bt557 => ((cohousingref05_Sum.f k bt555.1 bt555.2 bt557.1 bt557.2).bind fun bt559 => (some (bt553.1 == bt559.1 && (bt553.2 == bt559.2))))))) else (some false))) else (some false)) else (if t545 = true then (if bt548.2 = 3 then (some ((bt548.1.length : Int) == 0)) else (if bt548.2 = 2 then (some ((bt548.1.length : Int) == 0)) else (some false))) else (some false))))) else (some t545)))) = some r := h
 clear h
 replace H := Option.bind_eq_some_iff.mp H
 obtain ⟨t545, A40, H⟩ := H
 replace H : ((cohousinglaw05_both.f k l0 l1).bind fun t546 => (if t546 = true then ((cohousinglaw05_place.f a2).bind fun t547 => ((piecewise_Add.f l0 l1).bind fun bt548 => (if bt548.2 = 0 then (if t545 = true then ((cohousingref05_Valid.f k bt548.1).bind fun t552 => (if t552 = true then ((cohousingref05_Value.f k bt548.1 t547).bind fun bt553 => ((cohousingref05_Value.f k l0 t547).bind fun bt555 => ((cohousingref05_Value.f k l1 t547).bind fun bt557 => ((cohousingref05_Sum.f k bt555.1 bt555.2 bt557.1 bt557.2).bind fun bt559 => (some (bt553.1 == bt559.1 && (bt553.2 == bt559.2))))))) else (some false))) else (some false)) else (if t545 = true then (if bt548.2 = 3 then (some ((bt548.1.length : Int) == 0)) else (if bt548.2 = 2 then (some ((bt548.1.length : Int) == 0)) else (some false))) else (some false))))) else (some t545))) = some r := H
 have A4 := mk_ A40
 clear A40
 replace H := Option.bind_eq_some_iff.mp H
 obtain ⟨t546, A50, H⟩ := H
 replace H : (if t546 = true then ((cohousinglaw05_place.f a2).bind fun t547 => ((piecewise_Add.f l0 l1).bind fun bt548 => (if bt548.2 = 0 then (if t545 = true then ((cohousingref05_Valid.f k bt548.1).bind fun t552 => (if t552 = true then ((cohousingref05_Value.f k bt548.1 t547).bind fun bt553 => ((cohousingref05_Value.f k l0 t547).bind fun bt555 => ((cohousingref05_Value.f k l1 t547).bind fun bt557 => ((cohousingref05_Sum.f k bt555.1 bt555.2 bt557.1 bt557.2).bind fun bt559 => (some (bt553.1 == bt559.1 && (bt553.2 == bt559.2))))))) else (some false))) else (some false)) else (if t545 = true then (if bt548.2 = 3 then (some ((bt548.1.length : Int) == 0)) else (if bt548.2 = 2 then (some ((bt548.1.length : Int) == 0)) else (some false))) else (some false))))) else (some t545)) = some r := H
 have A5 := mk_ A50
 clear A50
 by_cases c6 : t546 = true
 rotate_left
 ·replace c6 := Bool.eq_false_iff.mpr c6
  subst c6
  have H1 : (some t545) = some r := by rw [if_neg (show ¬ (false = true) by decide)] at H; exact H
  clear H
  have H := H1
  clear H1
  obtain rfl := Option.some.inj H
  go_enter Try.func4, Try.ntmps4
  go_wp2_with (first | ((with_reducible refine gate_callee (f := 10) rfl ?_); refine gl_ (some 11) Try.func10 #[] ?_; (with_reducible refine (cohousinglaw05_head.calls k  t545 _ A4.out).mono ?_); rintro e w51 ⟨rfl, hb⟩; refine ⟨_, rfl, ?_⟩; have n0_ := mk_ (below_step (bb_ HB) hb); clear HB; revert n0_; intro HB; (try clear hb); (try clear hb2); (try clear hk); (try clear hi)) | ((with_reducible refine gate_callee (f := 25) rfl ?_); refine gl_ (some 14) Try.func25 #[.slice A0 l0.length c0, .slice A1 l1.length c1] ?_; (with_reducible refine (cohousinglaw05_both.calls k _ _ l0 _ _ l1 false _ ?side1 ?side2 ?side3 ?side4 A5.out).mono ?_); (case side1 => exact cc_ ((Kd.C_below HR0.out HB.out))); (case side2 => exact HC0.out); (case side3 => exact cc_ ((Kd.C_below HR1.out HB.out))); (case side4 => exact HC1.out); rintro e w52 ⟨rfl, hb⟩; refine ⟨_, rfl, ?_⟩; have n0_ := mk_ (below_step (bb_ HB) hb); clear HB; revert n0_; intro HB; (try clear hb); (try clear hb2); (try clear hk); (try clear hi)))
  go_ret
  exact ⟨ew_, bb_ HB⟩
 subst c6
 have H1 : ((cohousinglaw05_place.f a2).bind fun t547 => ((piecewise_Add.f l0 l1).bind fun bt548 => (if bt548.2 = 0 then (if t545 = true then ((cohousingref05_Valid.f k bt548.1).bind fun t552 => (if t552 = true then ((cohousingref05_Value.f k bt548.1 t547).bind fun bt553 => ((cohousingref05_Value.f k l0 t547).bind fun bt555 => ((cohousingref05_Value.f k l1 t547).bind fun bt557 => ((cohousingref05_Sum.f k bt555.1 bt555.2 bt557.1 bt557.2).bind fun bt559 => (some (bt553.1 == bt559.1 && (bt553.2 == bt559.2))))))) else (some false))) else (some false)) else (if t545 = true then (if bt548.2 = 3 then (some ((bt548.1.length : Int) == 0)) else (if bt548.2 = 2 then (some ((bt548.1.length : Int) == 0)) else (some false))) else (some false))))) = some r := by rw [if_pos rfl] at H; exact H
 clear H
 have H := H1
 clear H1
 replace H := Option.bind_eq_some_iff.mp H
 obtain ⟨t547, A70, H⟩ := H
 replace H : ((piecewise_Add.f l0 l1).bind fun bt548 => (if bt548.2 = 0 then (if t545 = true then ((cohousingref05_Valid.f k bt548.1).bind fun t552 => (if t552 = true then ((cohousingref05_Value.f k bt548.1 t547).bind fun bt553 => ((cohousingref05_Value.f k l0 t547).bind fun bt555 => ((cohousingref05_Value.f k l1 t547).bind fun bt557 => ((cohousingref05_Sum.f k bt555.1 bt555.2 bt557.1 bt557.2).bind fun bt559 => (some (bt553.1 == bt559.1 && (bt553.2 == bt559.2))))))) else (some false))) else (some false)) else (if t545 = true then (if bt548.2 = 3 then (some ((bt548.1.length : Int) == 0)) else (if bt548.2 = 2 then (some ((bt548.1.length : Int) == 0)) else (some false))) else (some false)))) = some r := H
 have A7 := mk_ A70
 clear A70
 replace H := Option.bind_eq_some_iff.mp H
 obtain ⟨⟨t548, t549⟩, A80, H⟩ := H
 replace H : (if t549 = 0 then (if t545 = true then ((cohousingref05_Valid.f k t548).bind fun t552 => (if t552 = true then ((cohousingref05_Value.f k t548 t547).bind fun bt553 => ((cohousingref05_Value.f k l0 t547).bind fun bt555 => ((cohousingref05_Value.f k l1 t547).bind fun bt557 => ((cohousingref05_Sum.f k bt555.1 bt555.2 bt557.1 bt557.2).bind fun bt559 => (some (bt553.1 == bt559.1 && (bt553.2 == bt559.2))))))) else (some false))) else (some false)) else (if t545 = true then (if t549 = 3 then (some ((t548.length : Int) == 0)) else (if t549 = 2 then (some ((t548.length : Int) == 0)) else (some false))) else (some false))) = some r := H
 have A8 := mk_ A80
 clear A80
 by_cases c9 : t549 = 0
 rotate_left
 ·rw [if_neg c9] at H
  have c9b0 : (t549 == 0) = false := beq_eq_false_iff_ne.mpr c9
  have c9b1 : (t549 != 0) = true := bne_iff_ne.mpr c9
  by_cases c34 : t545 = true
  rotate_left
  ·replace c34 := Bool.eq_false_iff.mpr c34
   subst c34
   have H1 : (some false) = some r := by rw [if_neg (show ¬ (false = true) by decide)] at H; exact H
   clear H
   have H := H1
   clear H1
   obtain rfl := Option.some.inj H
   go_enter Try.func4, Try.ntmps4
   go_wp2_with (first | ((with_reducible refine gate_callee (f := 10) rfl ?_); refine gl_ (some 11) Try.func10 #[] ?_; (with_reducible refine (cohousinglaw05_head.calls k  false _ A4.out).mono ?_); rintro e w48 ⟨rfl, hb⟩; refine ⟨_, rfl, ?_⟩; have n0_ := mk_ (below_step (bb_ HB) hb); clear HB; revert n0_; intro HB; (try clear hb); (try clear hb2); (try clear hk); (try clear hi)) | ((with_reducible refine gate_callee (f := 25) rfl ?_); refine gl_ (some 14) Try.func25 #[.slice A0 l0.length c0, .slice A1 l1.length c1] ?_; (with_reducible refine (cohousinglaw05_both.calls k _ _ l0 _ _ l1 true _ ?side1 ?side2 ?side3 ?side4 A5.out).mono ?_); (case side1 => exact cc_ ((Kd.C_below HR0.out HB.out))); (case side2 => exact HC0.out); (case side3 => exact cc_ ((Kd.C_below HR1.out HB.out))); (case side4 => exact HC1.out); rintro e w49 ⟨rfl, hb⟩; refine ⟨_, rfl, ?_⟩; have n0_ := mk_ (below_step (bb_ HB) hb); clear HB; revert n0_; intro HB; (try clear hb); (try clear hb2); (try clear hk); (try clear hi)) | ((with_reducible refine gate_callee (f := 26) rfl ?_); refine gl_ (some 18) Try.func26 #[.int .u32 a2] ?_; (with_reducible refine (cohousinglaw05_place.calls a2 t547 _ A7.out).mono ?_); rintro e w' ⟨rfl, ⟨nd, rfl⟩⟩; refine ⟨_, rfl, ?_⟩) | ((with_reducible refine gate_callee (f := 16) rfl ?_); refine gl_ (some 22) Try.func16 #[.slice A0 l0.length c0, .slice A1 l1.length c1] ?_; (with_reducible refine (piecewise_Add.calls _ _ l0 _ _ l1 t548 t549 _ ?side1 ?side2 ?side3 ?side4 A8.out).mono ?_); (case side1 => exact cc_ ((Kd.C_below HR0.out (bb_ HB)))); (case side2 => exact HC0.out); (case side3 => exact cc_ ((Kd.C_below HR1.out (bb_ HB)))); (case side4 => exact HC1.out); rintro e w50 ⟨v550, rfl, ho0, hb⟩; refine ⟨_, rfl, ?_⟩; have n0_ := mk_ (Kd.R_lower ho0 (below_size (bb_ HB))); have n1_ := mk_ (below_step (bb_ HB) hb); clear HB; revert n0_ n1_; intro HO551 HB; (try clear hb); (try clear hb2); (try clear hk); (try clear hi); (try clear ho0)))
   go_ret
   exact ⟨ew_, bb_ HB⟩
  subst c34
  have H1 : (if t549 = 3 then (some ((t548.length : Int) == 0)) else (if t549 = 2 then (some ((t548.length : Int) == 0)) else (some false))) = some r := by rw [if_pos rfl] at H; exact H
  clear H
  have H := H1
  clear H1
  by_cases c35 : t549 = 3
  ·rw [if_pos c35] at H
   have c35b0 : (t549 == 3) = true := beq_iff_eq.mpr c35
   have c35b1 : (t549 != 3) = false := bne_eq_false_iff_eq.mpr c35
   clear c35
   obtain rfl := Option.some.inj H
   go_enter Try.func4, Try.ntmps4
   go_wp2_with (first | ((with_reducible refine gate_callee (f := 10) rfl ?_); refine gl_ (some 11) Try.func10 #[] ?_; (with_reducible refine (cohousinglaw05_head.calls k  true _ A4.out).mono ?_); rintro e w36 ⟨rfl, hb⟩; refine ⟨_, rfl, ?_⟩; have n0_ := mk_ (below_step (bb_ HB) hb); clear HB; revert n0_; intro HB; (try clear hb); (try clear hb2); (try clear hk); (try clear hi)) | ((with_reducible refine gate_callee (f := 25) rfl ?_); refine gl_ (some 14) Try.func25 #[.slice A0 l0.length c0, .slice A1 l1.length c1] ?_; (with_reducible refine (cohousinglaw05_both.calls k _ _ l0 _ _ l1 true _ ?side1 ?side2 ?side3 ?side4 A5.out).mono ?_); (case side1 => exact cc_ ((Kd.C_below HR0.out HB.out))); (case side2 => exact HC0.out); (case side3 => exact cc_ ((Kd.C_below HR1.out HB.out))); (case side4 => exact HC1.out); rintro e w37 ⟨rfl, hb⟩; refine ⟨_, rfl, ?_⟩; have n0_ := mk_ (below_step (bb_ HB) hb); clear HB; revert n0_; intro HB; (try clear hb); (try clear hb2); (try clear hk); (try clear hi)) | ((with_reducible refine gate_callee (f := 26) rfl ?_); refine gl_ (some 18) Try.func26 #[.int .u32 a2] ?_; (with_reducible refine (cohousinglaw05_place.calls a2 t547 _ A7.out).mono ?_); rintro e w' ⟨rfl, ⟨nd, rfl⟩⟩; refine ⟨_, rfl, ?_⟩) | ((with_reducible refine gate_callee (f := 16) rfl ?_); refine gl_ (some 22) Try.func16 #[.slice A0 l0.length c0, .slice A1 l1.length c1] ?_; (with_reducible refine (piecewise_Add.calls _ _ l0 _ _ l1 t548 t549 _ ?side1 ?side2 ?side3 ?side4 A8.out).mono ?_); (case side1 => exact cc_ ((Kd.C_below HR0.out (bb_ HB)))); (case side2 => exact HC0.out); (case side3 => exact cc_ ((Kd.C_below HR1.out (bb_ HB)))); (case side4 => exact HC1.out); rintro e w38 ⟨v550, rfl, ho0, hb⟩; refine ⟨_, rfl, ?_⟩; have n0_ := mk_ (Kd.R_lower ho0 (below_size (bb_ HB))); have n1_ := mk_ (below_step (bb_ HB) hb); clear HB; revert n0_ n1_; intro HO551 HB; (try clear hb); (try clear hb2); (try clear hk); (try clear hi); (try clear ho0); obtain ⟨Ao39, co39, eo39⟩ := Kd.R_slice HO551.out; subst eo39))
   go_ret
   exact ⟨ew_, bb_ HB⟩
  rw [if_neg c35] at H
  have c35b0 : (t549 == 3) = false := beq_eq_false_iff_ne.mpr c35
  have c35b1 : (t549 != 3) = true := bne_iff_ne.mpr c35
  by_cases c40 : t549 = 2
  rotate_left
  ·rw [if_neg c40] at H
   have c40b0 : (t549 == 2) = false := beq_eq_false_iff_ne.mpr c40
   have c40b1 : (t549 != 2) = true := bne_iff_ne.mpr c40
   obtain rfl := Option.some.inj H
   go_enter Try.func4, Try.ntmps4
   go_wp2_with (first | ((with_reducible refine gate_callee (f := 10) rfl ?_); refine gl_ (some 11) Try.func10 #[] ?_; (with_reducible refine (cohousinglaw05_head.calls k  true _ A4.out).mono ?_); rintro e w45 ⟨rfl, hb⟩; refine ⟨_, rfl, ?_⟩; have n0_ := mk_ (below_step (bb_ HB) hb); clear HB; revert n0_; intro HB; (try clear hb); (try clear hb2); (try clear hk); (try clear hi)) | ((with_reducible refine gate_callee (f := 25) rfl ?_); refine gl_ (some 14) Try.func25 #[.slice A0 l0.length c0, .slice A1 l1.length c1] ?_; (with_reducible refine (cohousinglaw05_both.calls k _ _ l0 _ _ l1 true _ ?side1 ?side2 ?side3 ?side4 A5.out).mono ?_); (case side1 => exact cc_ ((Kd.C_below HR0.out HB.out))); (case side2 => exact HC0.out); (case side3 => exact cc_ ((Kd.C_below HR1.out HB.out))); (case side4 => exact HC1.out); rintro e w46 ⟨rfl, hb⟩; refine ⟨_, rfl, ?_⟩; have n0_ := mk_ (below_step (bb_ HB) hb); clear HB; revert n0_; intro HB; (try clear hb); (try clear hb2); (try clear hk); (try clear hi)) | ((with_reducible refine gate_callee (f := 26) rfl ?_); refine gl_ (some 18) Try.func26 #[.int .u32 a2] ?_; (with_reducible refine (cohousinglaw05_place.calls a2 t547 _ A7.out).mono ?_); rintro e w' ⟨rfl, ⟨nd, rfl⟩⟩; refine ⟨_, rfl, ?_⟩) | ((with_reducible refine gate_callee (f := 16) rfl ?_); refine gl_ (some 22) Try.func16 #[.slice A0 l0.length c0, .slice A1 l1.length c1] ?_; (with_reducible refine (piecewise_Add.calls _ _ l0 _ _ l1 t548 t549 _ ?side1 ?side2 ?side3 ?side4 A8.out).mono ?_); (case side1 => exact cc_ ((Kd.C_below HR0.out (bb_ HB)))); (case side2 => exact HC0.out); (case side3 => exact cc_ ((Kd.C_below HR1.out (bb_ HB)))); (case side4 => exact HC1.out); rintro e w47 ⟨v550, rfl, ho0, hb⟩; refine ⟨_, rfl, ?_⟩; have n0_ := mk_ (Kd.R_lower ho0 (below_size (bb_ HB))); have n1_ := mk_ (below_step (bb_ HB) hb); clear HB; revert n0_ n1_; intro HO551 HB; (try clear hb); (try clear hb2); (try clear hk); (try clear hi); (try clear ho0)))
   go_ret
   exact ⟨ew_, bb_ HB⟩
  rw [if_pos c40] at H
  have c40b0 : (t549 == 2) = true := beq_iff_eq.mpr c40
  have c40b1 : (t549 != 2) = false := bne_eq_false_iff_eq.mpr c40
  clear c40
  obtain rfl := Option.some.inj H
  go_enter Try.func4, Try.ntmps4
  go_wp2_with (first | ((with_reducible refine gate_callee (f := 10) rfl ?_); refine gl_ (some 11) Try.func10 #[] ?_; (with_reducible refine (cohousinglaw05_head.calls k  true _ A4.out).mono ?_); rintro e w41 ⟨rfl, hb⟩; refine ⟨_, rfl, ?_⟩; have n0_ := mk_ (below_step (bb_ HB) hb); clear HB; revert n0_; intro HB; (try clear hb); (try clear hb2); (try clear hk); (try clear hi)) | ((with_reducible refine gate_callee (f := 25) rfl ?_); refine gl_ (some 14) Try.func25 #[.slice A0 l0.length c0, .slice A1 l1.length c1] ?_; (with_reducible refine (cohousinglaw05_both.calls k _ _ l0 _ _ l1 true _ ?side1 ?side2 ?side3 ?side4 A5.out).mono ?_); (case side1 => exact cc_ ((Kd.C_below HR0.out HB.out))); (case side2 => exact HC0.out); (case side3 => exact cc_ ((Kd.C_below HR1.out HB.out))); (case side4 => exact HC1.out); rintro e w42 ⟨rfl, hb⟩; refine ⟨_, rfl, ?_⟩; have n0_ := mk_ (below_step (bb_ HB) hb); clear HB; revert n0_; intro HB; (try clear hb); (try clear hb2); (try clear hk); (try clear hi)) | ((with_reducible refine gate_callee (f := 26) rfl ?_); refine gl_ (some 18) Try.func26 #[.int .u32 a2] ?_; (with_reducible refine (cohousinglaw05_place.calls a2 t547 _ A7.out).mono ?_); rintro e w' ⟨rfl, ⟨nd, rfl⟩⟩; refine ⟨_, rfl, ?_⟩) | ((with_reducible refine gate_callee (f := 16) rfl ?_); refine gl_ (some 22) Try.func16 #[.slice A0 l0.length c0, .slice A1 l1.length c1] ?_; (with_reducible refine (piecewise_Add.calls _ _ l0 _ _ l1 t548 t549 _ ?side1 ?side2 ?side3 ?side4 A8.out).mono ?_); (case side1 => exact cc_ ((Kd.C_below HR0.out (bb_ HB)))); (case side2 => exact HC0.out); (case side3 => exact cc_ ((Kd.C_below HR1.out (bb_ HB)))); (case side4 => exact HC1.out); rintro e w43 ⟨v550, rfl, ho0, hb⟩; refine ⟨_, rfl, ?_⟩; have n0_ := mk_ (Kd.R_lower ho0 (below_size (bb_ HB))); have n1_ := mk_ (below_step (bb_ HB) hb); clear HB; revert n0_ n1_; intro HO551 HB; (try clear hb); (try clear hb2); (try clear hk); (try clear hi); (try clear ho0); obtain ⟨Ao44, co44, eo44⟩ := Kd.R_slice HO551.out; subst eo44))
  go_ret
  exact ⟨ew_, bb_ HB⟩
 rw [if_pos c9] at H
 have c9b0 : (t549 == 0) = true := beq_iff_eq.mpr c9
 have c9b1 : (t549 != 0) = false := bne_eq_false_iff_eq.mpr c9
 clear c9
 by_cases c10 : t545 = true
 rotate_left
 ·replace c10 := Bool.eq_false_iff.mpr c10
  subst c10
  have H1 : (some false) = some r := by rw [if_neg (show ¬ (false = true) by decide)] at H; exact H
  clear H
  have H := H1
  clear H1
  obtain rfl := Option.some.inj H
  go_enter Try.func4, Try.ntmps4
  go_wp2_with (first | ((with_reducible refine gate_callee (f := 10) rfl ?_); refine gl_ (some 11) Try.func10 #[] ?_; (with_reducible refine (cohousinglaw05_head.calls k  false _ A4.out).mono ?_); rintro e w31 ⟨rfl, hb⟩; refine ⟨_, rfl, ?_⟩; have n0_ := mk_ (below_step (bb_ HB) hb); clear HB; revert n0_; intro HB; (try clear hb); (try clear hb2); (try clear hk); (try clear hi)) | ((with_reducible refine gate_callee (f := 25) rfl ?_); refine gl_ (some 14) Try.func25 #[.slice A0 l0.length c0, .slice A1 l1.length c1] ?_; (with_reducible refine (cohousinglaw05_both.calls k _ _ l0 _ _ l1 true _ ?side1 ?side2 ?side3 ?side4 A5.out).mono ?_); (case side1 => exact cc_ ((Kd.C_below HR0.out HB.out))); (case side2 => exact HC0.out); (case side3 => exact cc_ ((Kd.C_below HR1.out HB.out))); (case side4 => exact HC1.out); rintro e w32 ⟨rfl, hb⟩; refine ⟨_, rfl, ?_⟩; have n0_ := mk_ (below_step (bb_ HB) hb); clear HB; revert n0_; intro HB; (try clear hb); (try clear hb2); (try clear hk); (try clear hi)) | ((with_reducible refine gate_callee (f := 26) rfl ?_); refine gl_ (some 18) Try.func26 #[.int .u32 a2] ?_; (with_reducible refine (cohousinglaw05_place.calls a2 t547 _ A7.out).mono ?_); rintro e w' ⟨rfl, ⟨nd, rfl⟩⟩; refine ⟨_, rfl, ?_⟩) | ((with_reducible refine gate_callee (f := 16) rfl ?_); refine gl_ (some 22) Try.func16 #[.slice A0 l0.length c0, .slice A1 l1.length c1] ?_; (with_reducible refine (piecewise_Add.calls _ _ l0 _ _ l1 t548 t549 _ ?side1 ?side2 ?side3 ?side4 A8.out).mono ?_); (case side1 => exact cc_ ((Kd.C_below HR0.out (bb_ HB)))); (case side2 => exact HC0.out); (case side3 => exact cc_ ((Kd.C_below HR1.out (bb_ HB)))); (case side4 => exact HC1.out); rintro e w33 ⟨v550, rfl, ho0, hb⟩; refine ⟨_, rfl, ?_⟩; have n0_ := mk_ (Kd.R_lower ho0 (below_size (bb_ HB))); have n1_ := mk_ (below_step (bb_ HB) hb); clear HB; revert n0_ n1_; intro HO551 HB; (try clear hb); (try clear hb2); (try clear hk); (try clear hi); (try clear ho0)))
  go_ret
  exact ⟨ew_, bb_ HB⟩
 subst c10
 have H1 : ((cohousingref05_Valid.f k t548).bind fun t552 => (if t552 = true then ((cohousingref05_Value.f k t548 t547).bind fun bt553 => ((cohousingref05_Value.f k l0 t547).bind fun bt555 => ((cohousingref05_Value.f k l1 t547).bind fun bt557 => ((cohousingref05_Sum.f k bt555.1 bt555.2 bt557.1 bt557.2).bind fun bt559 => (some (bt553.1 == bt559.1 && (bt553.2 == bt559.2))))))) else (some false))) = some r := by rw [if_pos rfl] at H; exact H
 clear H
 have H := H1
 clear H1
 replace H := Option.bind_eq_some_iff.mp H
 obtain ⟨t552, A110, H⟩ := H
 replace H : (if t552 = true then ((cohousingref05_Value.f k t548 t547).bind fun bt553 => ((cohousingref05_Value.f k l0 t547).bind fun bt555 => ((cohousingref05_Value.f k l1 t547).bind fun bt557 => ((cohousingref05_Sum.f k bt555.1 bt555.2 bt557.1 bt557.2).bind fun bt559 => (some (bt553.1 == bt559.1 && (bt553.2 == bt559.2))))))) else (some false)) = some r := H
 have A11 := mk_ A110
 clear A110
 by_cases c12 : t552 = true
 rotate_left
 ·replace c12 := Bool.eq_false_iff.mpr c12
  subst c12
  have H1 : (some false) = some r := by rw [if_neg (show ¬ (false = true) by decide)] at H; exact H
  clear H
  have H := H1
  clear H1
  obtain rfl := Option.some.inj H
  go_enter Try.func4, Try.ntmps4
  go_wp2_with (first | ((with_reducible refine gate_callee (f := 10) rfl ?_); refine gl_ (some 11) Try.func10 #[] ?_; (with_reducible refine (cohousinglaw05_head.calls k  true _ A4.out).mono ?_); rintro e w26 ⟨rfl, hb⟩; refine ⟨_, rfl, ?_⟩; have n0_ := mk_ (below_step (bb_ HB) hb); clear HB; revert n0_; intro HB; (try clear hb); (try clear hb2); (try clear hk); (try clear hi)) | ((with_reducible refine gate_callee (f := 25) rfl ?_); refine gl_ (some 14) Try.func25 #[.slice A0 l0.length c0, .slice A1 l1.length c1] ?_; (with_reducible refine (cohousinglaw05_both.calls k _ _ l0 _ _ l1 true _ ?side1 ?side2 ?side3 ?side4 A5.out).mono ?_); (case side1 => exact cc_ ((Kd.C_below HR0.out HB.out))); (case side2 => exact HC0.out); (case side3 => exact cc_ ((Kd.C_below HR1.out HB.out))); (case side4 => exact HC1.out); rintro e w27 ⟨rfl, hb⟩; refine ⟨_, rfl, ?_⟩; have n0_ := mk_ (below_step (bb_ HB) hb); clear HB; revert n0_; intro HB; (try clear hb); (try clear hb2); (try clear hk); (try clear hi)) | ((with_reducible refine gate_callee (f := 26) rfl ?_); refine gl_ (some 18) Try.func26 #[.int .u32 a2] ?_; (with_reducible refine (cohousinglaw05_place.calls a2 t547 _ A7.out).mono ?_); rintro e w' ⟨rfl, ⟨nd, rfl⟩⟩; refine ⟨_, rfl, ?_⟩) | ((with_reducible refine gate_callee (f := 16) rfl ?_); refine gl_ (some 22) Try.func16 #[.slice A0 l0.length c0, .slice A1 l1.length c1] ?_; (with_reducible refine (piecewise_Add.calls _ _ l0 _ _ l1 t548 t549 _ ?side1 ?side2 ?side3 ?side4 A8.out).mono ?_); (case side1 => exact cc_ ((Kd.C_below HR0.out (bb_ HB)))); (case side2 => exact HC0.out); (case side3 => exact cc_ ((Kd.C_below HR1.out (bb_ HB)))); (case side4 => exact HC1.out); rintro e w28 ⟨v550, rfl, ho0, hb⟩; refine ⟨_, rfl, ?_⟩; have n0_ := mk_ (Kd.R_lower ho0 (below_size (bb_ HB))); have n1_ := mk_ (below_step (bb_ HB) hb); clear HB; revert n0_ n1_; intro HO551 HB; (try clear hb); (try clear hb2); (try clear hk); (try clear hi); (try clear ho0); obtain ⟨Ao29, co29, eo29⟩ := Kd.R_slice HO551.out; subst eo29) | (go_at_call 15; (with_reducible refine (cohousingref05_Valid.calls k _ _ t548 false _ ?side1 ?side2 A11.out).mono ?_); (case side1 => exact cc_ ((Kd.R_reads' HO551.out).2.2)); (case side2 => exact (Kd.R_reads' HO551.out).2.1); rintro e w30 ⟨rfl, hb⟩; have n0_ := mk_ (Kd.R_below (rr_ HO551) hb); have n1_ := mk_ (below_step (bb_ HB) hb); clear HO551 HB; revert n0_ n1_; intro HO551 HB; (try clear hb); (try clear hb2); (try clear hk); (try clear hi)))
  go_ret
  exact ⟨ew_, bb_ HB⟩
 subst c12
 have H1 : ((cohousingref05_Value.f k t548 t547).bind fun bt553 => ((cohousingref05_Value.f k l0 t547).bind fun bt555 => ((cohousingref05_Value.f k l1 t547).bind fun bt557 => ((cohousingref05_Sum.f k bt555.1 bt555.2 bt557.1 bt557.2).bind fun bt559 => (some (bt553.1 == bt559.1 && (bt553.2 == bt559.2))))))) = some r := by rw [if_pos rfl] at H; exact H
 clear H
 have H := H1
 clear H1
 replace H := Option.bind_eq_some_iff.mp H
 obtain ⟨⟨t553, t554⟩, A130, H⟩ := H
 replace H : ((cohousingref05_Value.f k l0 t547).bind fun bt555 => ((cohousingref05_Value.f k l1 t547).bind fun bt557 => ((cohousingref05_Sum.f k bt555.1 bt555.2 bt557.1 bt557.2).bind fun bt559 => (some (t553 == bt559.1 && (t554 == bt559.2)))))) = some r := H
 have A13 := mk_ A130
 clear A130
 replace H := Option.bind_eq_some_iff.mp H
 obtain ⟨⟨t555, t556⟩, A140, H⟩ := H
 replace H : ((cohousingref05_Value.f k l1 t547).bind fun bt557 => ((cohousingref05_Sum.f k t555 t556 bt557.1 bt557.2).bind fun bt559 => (some (t553 == bt559.1 && (t554 == bt559.2))))) = some r := H
 have A14 := mk_ A140
 clear A140
 replace H := Option.bind_eq_some_iff.mp H
 obtain ⟨⟨t557, t558⟩, A150, H⟩ := H
 replace H : ((cohousingref05_Sum.f k t555 t556 t557 t558).bind fun bt559 => (some (t553 == bt559.1 && (t554 == bt559.2)))) = some r := H
 have A15 := mk_ A150
 clear A150
 replace H := Option.bind_eq_some_iff.mp H
 obtain ⟨⟨t559, t560⟩, A160, H⟩ := H
 replace H : (some (t553 == t559 && (t554 == t560))) = some r := H
 have A16 := mk_ A160
 clear A160
 obtain rfl := Option.some.inj H
 go_enter Try.func4, Try.ntmps4
 go_wp2_with (first | ((with_reducible refine gate_callee (f := 10) rfl ?_); refine gl_ (some 11) Try.func10 #[] ?_; (with_reducible refine (cohousinglaw05_head.calls k  true _ A4.out).mono ?_); rintro e w17 ⟨rfl, hb⟩; refine ⟨_, rfl, ?_⟩; have n0_ := mk_ (below_step (bb_ HB) hb); clear HB; revert n0_; intro HB; (try clear hb); (try clear hb2); (try clear hk); (try clear hi)) | ((with_reducible refine gate_callee (f := 25) rfl ?_); refine gl_ (some 14) Try.func25 #[.slice A0 l0.length c0, .slice A1 l1.length c1] ?_; (with_reducible refine (cohousinglaw05_both.calls k _ _ l0 _ _ l1 true _ ?side1 ?side2 ?side3 ?side4 A5.out).mono ?_); (case side1 => exact cc_ ((Kd.C_below HR0.out HB.out))); (case side2 => exact HC0.out); (case side3 => exact cc_ ((Kd.C_below HR1.out HB.out))); (case side4 => exact HC1.out); rintro e w18 ⟨rfl, hb⟩; refine ⟨_, rfl, ?_⟩; have n0_ := mk_ (below_step (bb_ HB) hb); clear HB; revert n0_; intro HB; (try clear hb); (try clear hb2); (try clear hk); (try clear hi)) | ((with_reducible refine gate_callee (f := 26) rfl ?_); refine gl_ (some 18) Try.func26 #[.int .u32 a2] ?_; (with_reducible refine (cohousinglaw05_place.calls a2 t547 _ A7.out).mono ?_); rintro e w' ⟨rfl, ⟨nd, rfl⟩⟩; refine ⟨_, rfl, ?_⟩) | ((with_reducible refine gate_callee (f := 16) rfl ?_); refine gl_ (some 22) Try.func16 #[.slice A0 l0.length c0, .slice A1 l1.length c1] ?_; (with_reducible refine (piecewise_Add.calls _ _ l0 _ _ l1 t548 t549 _ ?side1 ?side2 ?side3 ?side4 A8.out).mono ?_); (case side1 => exact cc_ ((Kd.C_below HR0.out (bb_ HB)))); (case side2 => exact HC0.out); (case side3 => exact cc_ ((Kd.C_below HR1.out (bb_ HB)))); (case side4 => exact HC1.out); rintro e w19 ⟨v550, rfl, ho0, hb⟩; refine ⟨_, rfl, ?_⟩; have n0_ := mk_ (Kd.R_lower ho0 (below_size (bb_ HB))); have n1_ := mk_ (below_step (bb_ HB) hb); clear HB; revert n0_ n1_; intro HO551 HB; (try clear hb); (try clear hb2); (try clear hk); (try clear hi); (try clear ho0); obtain ⟨Ao20, co20, eo20⟩ := Kd.R_slice HO551.out; subst eo20) | (go_at_call 15; (with_reducible refine (cohousingref05_Valid.calls k _ _ t548 true _ ?side1 ?side2 A11.out).mono ?_); (case side1 => exact cc_ ((Kd.R_reads' HO551.out).2.2)); (case side2 => exact (Kd.R_reads' HO551.out).2.1); rintro e w21 ⟨rfl, hb⟩; have n0_ := mk_ (Kd.R_below (rr_ HO551) hb); have n1_ := mk_ (below_step (bb_ HB) hb); clear HO551 HB; revert n0_ n1_; intro HO551 HB; (try clear hb); (try clear hb2); (try clear hk); (try clear hi)) | (go_at_call 27; (with_reducible refine (cohousingref05_Value.calls k _ _ t548 t547 t553 t554 _ ?side1 ?side2 A13.out).mono ?_); (case side1 => exact cc_ ((Kd.R_reads' HO551.out).2.2)); (case side2 => exact (Kd.R_reads' HO551.out).2.1); rintro e w22 ⟨rfl, hb⟩; have n0_ := mk_ (Kd.R_below (rr_ HO551) hb); have n1_ := mk_ (below_step (bb_ HB) hb); clear HO551 HB; revert n0_ n1_; intro HO551 HB; (try clear hb); (try clear hb2); (try clear hk); (try clear hi)) | (go_at_call 27; (with_reducible refine (cohousingref05_Value.calls k _ _ l0 t547 t555 t556 _ ?side1 ?side2 A14.out).mono ?_); (case side1 => exact cc_ ((Kd.C_below HR0.out HB.out))); (case side2 => exact HC0.out); rintro e w23 ⟨rfl, hb⟩; have n0_ := mk_ (Kd.R_below (rr_ HO551) hb); have n1_ := mk_ (below_step (bb_ HB) hb); clear HO551 HB; revert n0_ n1_; intro HO551 HB; (try clear hb); (try clear hb2); (try clear hk); (try clear hi)) | (go_at_call 27; (with_reducible refine (cohousingref05_Value.calls k _ _ l1 t547 t557 t558 _ ?side1 ?side2 A15.out).mono ?_); (case side1 => exact cc_ ((Kd.C_below HR1.out HB.out))); (case side2 => exact HC1.out); rintro e w24 ⟨rfl, hb⟩; have n0_ := mk_ (Kd.R_below (rr_ HO551) hb); have n1_ := mk_ (below_step (bb_ HB) hb); clear HO551 HB; revert n0_ n1_; intro HO551 HB; (try clear hb); (try clear hb2); (try clear hk); (try clear hi)) | (go_at_call 28; (with_reducible refine (cohousingref05_Sum.calls k t555 t556 t557 t558 t559 t560 _ A16.out).mono ?_); rintro e w25 ⟨rfl, hb⟩; have n0_ := mk_ (Kd.R_below (rr_ HO551) hb); have n1_ := mk_ (below_step (bb_ HB) hb); clear HO551 HB; revert n0_ n1_; intro HO551 HB; (try clear hb); (try clear hb2); (try clear hk); (try clear hi)))
 go_ret
 exact ⟨ew_, bb_ HB⟩
end
end Go.Proofs.Ytmhimmodigeeiaa.P
end
section
namespace Go.Proofs.Ytmhimmodigeeiaa.P
open Go.RowKit Go.Proofs.YtmhimmodigeeiaaW.PrintWords Go.Proofs.YtmhimmodigeeiaaW.PrintLast Go.Proofs.YtmhimmodigeeiaaW.PrintMore
set_option linter.unusedVariables false
set_option linter.unusedSimpArgs false
open Classical
theorem sums_ (f g : List PC) (hIf : ∀ p ∈ f, IBP p) (hIg : ∀ p ∈ g, IBP p) (a : Int) (ha : 0 ≤ a ∧ a ≤ 4294967295) : Ev (fun k => cohousinglaw05_PiecewiseSums.f k f g a) true := by
 obtain ⟨bb, hb1, hb2⟩ := both_ev f g hIf hIg
 unfold cohousinglaw05_PiecewiseSums.f
 refine Ev.bnd head_ev (Ev.bnd hb1 ?_)
 cases bb with
 | false =>
  simp only [Bool.false_eq_true, if_false]
  exact Ev.pure _
 | true =>
  obtain ⟨hf, hg⟩ := hb2 rfl
  obtain ⟨x, hx, h0, h1⟩ := place_eq ha.1 ha.2
  obtain ⟨M, hM, hS, hM1, hM0⟩ := stM_ex hf hg
  have hadd := add_eq hf hg hM
  have hes := addEs_es hf hg hS hM0
  simp only [if_true, hx, hadd, Option.bind_some]
  rcases resS_cases (outM none (addEs f g M)) with (e | e) | ⟨e, hok, hlen⟩
  ·rw [e]
   have z : ((3 : Int) = 0) = False := by simp
   simp only [z, if_false, if_true, List.length_nil]
   exact Ev.pure _
  ·rw [e]
   have z : ((2 : Int) = 0) = False := by simp
   have z2 : ((2 : Int) = 3) = False := by simp
   simp only [z, z2, if_false, if_true, List.length_nil]
   exact Ev.pure _
  ·rw [e]
   have hfo := out_fok hes hok hlen
   obtain ⟨i, hi⟩ := ex_at hf h0
   obtain ⟨k, hk⟩ := ex_at hg h0
   obtain ⟨l1, l2⟩ := add_line hf hg hS h0 h1 hi hk
   have hv := out_value hes hfo h0 (show x ≤ 100001 by omega)
   rw [l1, l2] at hv
   have b1 := red_LB (hf.lb hi.1) h0 (show x ≤ 100001 by omega)
   have b2 := red_LB (hg.lb hk.1) h0 (show x ≤ 100001 by omega)
   have hs := sum_ev b1.1.1 b1.1.2 b1.2.1 b1.2.2 b2.1.1 b2.1.2 b2.2.1 b2.2.2
   rw [red_sum (hf.pok hi.1).dpos (hg.pok hk.1).dpos] at hs
   simp only [if_true]
   refine Ev.bnd (rvalid_ev _ (fok_ib hfo)) ?_
   simp only [decide_eq_true hfo, if_true]
   refine Ev.bnd hv (Ev.bnd (value_ev hf hi h0 (by omega)) (Ev.bnd (value_ev hg hk h0 (by omega)) (Ev.bnd hs ?_)))
   simp only [beq_self_eq_true, Bool.and_self]
   exact Ev.pure _
end Go.Proofs.Ytmhimmodigeeiaa.P
end
