/- Part 1 of the proof of PiecewiseBelow: what it alone needs. -/
import Derived.Test.YtmhimmodigeeiaaCBj
set_option linter.unusedVariables false
set_option linter.unusedSimpArgs false
section
namespace Go.Proofs.Ytmhimmodigeeiaa.P
open Go.RowKit Go.Proofs.YtmhimmodigeeiaaW.PrintWords Go.Proofs.YtmhimmodigeeiaaW.PrintLast Go.Proofs.YtmhimmodigeeiaaW.PrintMore
attribute [local go_sem] max2_int min2_int max_two min_two max_three min_three max_four min_four
set_option linter.unusedVariables false
set_option linter.unusedSimpArgs false
set_option maxHeartbeats 8000000
set_option maxRecDepth 100000
section
mutual
def cohousinglaw05_PiecewiseBelow.j0 : Nat → List (S51) → List (S51) → Bool → Int → Int → Int → Int → Int → Bool → Bool → Option (Bool)
 | 0, _, _, _, _, _, _, _, _, _, _ => none
 | k + 1, x0, x1, x11, x12, x13, x14, x15, x17, x18, x64 => if x64 = true then (if x11 = true then (if x17 = 0 then (if x15 = 0 then (some (!x18)) else (some false)) else (some false)) else (some false)) else (if x15 < x12 then (cohousinglaw05_PiecewiseBelow.j1 k x0 x1 x11 x14 x15 x18 true) else (cohousinglaw05_PiecewiseBelow.j1 k x0 x1 x11 x14 x15 x18 (decide (x15 > x13))))
def cohousinglaw05_PiecewiseBelow.j1 : Nat → List (S51) → List (S51) → Bool → Int → Int → Bool → Bool → Option (Bool)
 | 0, _, _, _, _, _, _, _ => none
 | k + 1, x0, x1, x11, x14, x15, x18, x85 => if x85 = true then (some false) else (if x11 = true then ((cohousingref05_Value.f k x0 x15).bind fun bt594 => ((cohousingref05_Value.f k x1 x15).bind fun bt596 => ((cohousingref05_Compare.f bt594.1 bt594.2 bt596.1 bt596.2).bind fun t598 => (if t598 < 0 then (if x18 = true then (some (decide (x14 ≥ x15))) else (some true)) else (some false))))) else (some false))
end
def cohousinglaw05_PiecewiseBelow.f (k : Nat) (l0 : List (S51)) (l1 : List (S51)) (a2 : Int) (a3 : Int) (a4 : Int) : Option (Bool) := (cohousinglaw05_head.f k).bind fun t582 => ((cohousinglaw05_both.f k l0 l1).bind fun t583 => (if t583 = true then ((cohousinglaw05_place.f a2).bind fun t584 => ((cohousinglaw05_place.f a3).bind fun t585 => (if (wrap64 ((wrap64 ((mn 100000 (wrap64 (t584 + t585))) - t584)) + 1)) = 0 then (none) else ((piecewise_Below.f l0 l1 t584 (mn 100000 (wrap64 (t584 + t585)))).bind fun bt586 => ((cohousingref05_Value.f k l0 (wrap64 (t584 + (Int.tmod (wrap64 (a4)) (wrap64 ((wrap64 ((mn 100000 (wrap64 (t584 + t585))) - t584)) + 1)))))).bind fun bt589 => ((cohousingref05_Value.f k l1 (wrap64 (t584 + (Int.tmod (wrap64 (a4)) (wrap64 ((wrap64 ((mn 100000 (wrap64 (t584 + t585))) - t584)) + 1)))))).bind fun bt591 => ((cohousingref05_Compare.f bt589.1 bt589.2 bt591.1 bt591.2).bind fun t593 => (if bt586.2.2 = 0 then (cohousinglaw05_PiecewiseBelow.j0 k l0 l1 t582 t584 (mn 100000 (wrap64 (t584 + t585))) (wrap64 (t584 + (Int.tmod (wrap64 (a4)) (wrap64 ((wrap64 ((mn 100000 (wrap64 (t584 + t585))) - t584)) + 1))))) bt586.1 bt586.2.2 (decide (t593 < 0)) (!bt586.2.1)) else (cohousinglaw05_PiecewiseBelow.j0 k l0 l1 t582 t584 (mn 100000 (wrap64 (t584 + t585))) (wrap64 (t584 + (Int.tmod (wrap64 (a4)) (wrap64 ((wrap64 ((mn 100000 (wrap64 (t584 + t585))) - t584)) + 1))))) bt586.1 bt586.2.2 (decide (t593 < 0)) true))))))))) else (some t582)))
theorem cohousinglaw05_PiecewiseBelow.calls (k : Nat) (A0 : Option Addr) (c0 : Nat) (l0 : List (S51)) (A1 : Option Addr) (c1 : Nat) (l1 : List (S51)) (a2 : Int) (a3 : Int) (a4 : Int) (r : Bool) (w : World) (hr0 : Kd.C k51 w A0 l0.length l0) (hc0 : l0.length ≤ c0) (hr1 : Kd.C k51 w A1 l1.length l1) (hc1 : l1.length ≤ c1) (h : cohousinglaw05_PiecewiseBelow.f k l0 l1 a2 a3 a4 = some r) :
  Calls Try.prog 6 #[.slice A0 l0.length c0, .slice A1 l1.length c1, .int .u32 a2, .int .u32 a3, .int .u32 a4] w fun e w' => e = .returned (.bool r) ∧ Below w.heap.size w w' := by
 have hu26 := Try.underlying26
 have HR0 := mk_ hr0
 have HC0 := mk_ hc0
 clear hr0 hc0
 have HR1 := mk_ hr1
 have HC1 := mk_ hc1
 clear hr1 hc1
 have HB := mk_ (Below.refl w.heap.size w)
 have H : ((cohousinglaw05_head.f k).bind fun t582 => ((cohousinglaw05_both.f k l0 l1).bind fun t583 => (if t583 = true then ((cohousinglaw05_place.f a2).bind fun t584 => ((cohousinglaw05_place.f a3).bind fun t585 => (if (wrap64 ((wrap64 ((mn 100000 (wrap64 (t584 + t585))) - t584)) + 1)) = 0 then (none) else ((piecewise_Below.f l0 l1 t584 (mn 100000 (wrap64 (t584 + t585)))).bind fun bt586 => ((cohousingref05_Value.f k l0 (wrap64 (t584 + (Int.tmod (wrap64 (a4)) (wrap64 ((wrap64 ((mn 100000 (wrap64 (t584 + t585))) - t584)) + 1)))))).bind fun bt589 => ((cohousingref05_Value.f k l1 (wrap64 (t584 + (Int.tmod (wrap64 (a4)) (wrap64 ((wrap64 ((mn 100000 (wrap64 (t584 + t585))) - t584)) + 1)))))).bind fun bt591 => ((cohousingref05_Compare.f bt589.1 bt589.2 bt591.1 bt591.2).bind fun t593 => (if bt586.2.2 = 0 then (cohousinglaw05_PiecewiseBelow.j0 k l0 l1 t582 t584 (mn 100000 (wrap64 (t584 + t585))) (wrap64 (t584 + (Int.tmod (wrap64 (a4)) (wrap64 ((wrap64 ((mn 100000 (wrap64 (t584 + t585))) - t584)) + 1))))) bt586.1 bt586.2.2 (decide (t593 < 0)) (!bt586.2.1)) else (cohousinglaw05_PiecewiseBelow.j0 k l0 l1 t582 t584 (mn 100000 (wrap64 (t584 + t585))) (wrap64 (t584 + (Int.tmod (wrap64 (a4)) (wrap64 ((wrap64 ((mn 100000 (wrap64 (t584 + t585))) - t584)) + 1))))) bt586.1 bt586.2.2 (decide (t593 < 0)) true))))))))) else (some t582)))) = some r := h
 clear h
 replace H := Option.bind_eq_some_iff.mp H
 obtain ⟨t582, A60, H⟩ := H
 replace H : ((cohousinglaw05_both.f k l0 l1).bind fun t583 => (if t583 = true then ((cohousinglaw05_place.f a2).bind fun t584 => ((cohousinglaw05_place.f a3).bind fun t585 => (if (wrap64 ((wrap64 ((mn 100000 (wrap64 (t584 + t585))) - t584)) + 1)) = 0 then (none) else ((piecewise_Below.f l0 l1 t584 (mn 100000 (wrap64 (t584 + t585)))).bind fun bt586 => ((cohousingref05_Value.f k l0 (wrap64 (t584 + (Int.tmod (wrap64 (a4)) (wrap64 ((wrap64 ((mn 100000 (wrap64 (t584 + t585))) - t584)) + 1)))))).bind fun bt589 => ((cohousingref05_Value.f k l1 (wrap64 (t584 + (Int.tmod (wrap64 (a4)) (wrap64 ((wrap64 ((mn 100000 (wrap64 (t584 + t585))) - t584)) + 1)))))).bind fun bt591 => ((cohousingref05_Compare.f bt589.1 bt589.2 bt591.1 bt591.2).bind fun t593 => (if bt586.2.2 = 0 then (cohousinglaw05_PiecewiseBelow.j0 k l0 l1 t582 t584 (mn 100000 (wrap64 (t584 + t585))) (wrap64 (t584 + (Int.tmod (wrap64 (a4)) (wrap64 ((wrap64 ((mn 100000 (wrap64 (t584 + t585))) - t584)) + 1))))) bt586.1 bt586.2.2 (decide (t593 < 0)) (!bt586.2.1)) else (cohousinglaw05_PiecewiseBelow.j0 k l0 l1 t582 t584 (mn 100000 (wrap64 (t584 + t585))) (wrap64 (t584 + (Int.tmod (wrap64 (a4)) (wrap64 ((wrap64 ((mn 100000 (wrap64 (t584 + t585))) - t584)) + 1))))) bt586.1 bt586.2.2 (decide (t593 < 0)) true))))))))) else (some t582))) = some r := H
 have A6 := mk_ A60
 clear A60
 replace H := Option.bind_eq_some_iff.mp H
 obtain ⟨t583, A70, H⟩ := H
 replace H : (if t583 = true then ((cohousinglaw05_place.f a2).bind fun t584 => ((cohousinglaw05_place.f a3).bind fun t585 => (if (wrap64 ((wrap64 ((mn 100000 (wrap64 (t584 + t585))) - t584)) + 1)) = 0 then (none) else ((piecewise_Below.f l0 l1 t584 (mn 100000 (wrap64 (t584 + t585)))).bind fun bt586 => ((cohousingref05_Value.f k l0 (wrap64 (t584 + (Int.tmod (wrap64 (a4)) (wrap64 ((wrap64 ((mn 100000 (wrap64 (t584 + t585))) - t584)) + 1)))))).bind fun bt589 => ((cohousingref05_Value.f k l1 (wrap64 (t584 + (Int.tmod (wrap64 (a4)) (wrap64 ((wrap64 ((mn 100000 (wrap64 (t584 + t585))) - t584)) + 1)))))).bind fun bt591 => ((cohousingref05_Compare.f bt589.1 bt589.2 bt591.1 bt591.2).bind fun t593 => (if bt586.2.2 = 0 then (cohousinglaw05_PiecewiseBelow.j0 k l0 l1 t582 t584 (mn 100000 (wrap64 (t584 + t585))) (wrap64 (t584 + (Int.tmod (wrap64 (a4)) (wrap64 ((wrap64 ((mn 100000 (wrap64 (t584 + t585))) - t584)) + 1))))) bt586.1 bt586.2.2 (decide (t593 < 0)) (!bt586.2.1)) else (cohousinglaw05_PiecewiseBelow.j0 k l0 l1 t582 t584 (mn 100000 (wrap64 (t584 + t585))) (wrap64 (t584 + (Int.tmod (wrap64 (a4)) (wrap64 ((wrap64 ((mn 100000 (wrap64 (t584 + t585))) - t584)) + 1))))) bt586.1 bt586.2.2 (decide (t593 < 0)) true))))))))) else (some t582)) = some r := H
 have A7 := mk_ A70
 clear A70
 by_cases c8 : t583 = true
 rotate_left
 ·replace c8 := Bool.eq_false_iff.mpr c8
  subst c8
  have H1 : (some t582) = some r := by rw [if_neg (show ¬ (false = true) by decide)] at H; exact H
  clear H
  have H := H1
  clear H1
  obtain rfl := Option.some.inj H
  go_enter Try.func6, Try.ntmps6
  go_wp2_with (first | ((with_reducible refine gate_callee (f := 10) rfl ?_); refine gl_ (some 19) Try.func10 #[] ?_; (with_reducible refine (cohousinglaw05_head.calls k  t582 _ A6.out).mono ?_); rintro e w47 ⟨rfl, hb⟩; refine ⟨_, rfl, ?_⟩; have n0_ := mk_ (below_step (bb_ HB) hb); clear HB; revert n0_; intro HB; (try clear hb); (try clear hb2); (try clear hk); (try clear hi)) | ((with_reducible refine gate_callee (f := 25) rfl ?_); refine gl_ (some 22) Try.func25 #[.slice A0 l0.length c0, .slice A1 l1.length c1] ?_; (with_reducible refine (cohousinglaw05_both.calls k _ _ l0 _ _ l1 false _ ?side1 ?side2 ?side3 ?side4 A7.out).mono ?_); (case side1 => exact cc_ ((Kd.C_below HR0.out HB.out))); (case side2 => exact HC0.out); (case side3 => exact cc_ ((Kd.C_below HR1.out HB.out))); (case side4 => exact HC1.out); rintro e w48 ⟨rfl, hb⟩; refine ⟨_, rfl, ?_⟩; have n0_ := mk_ (below_step (bb_ HB) hb); clear HB; revert n0_; intro HB; (try clear hb); (try clear hb2); (try clear hk); (try clear hi)))
  go_ret
  exact ⟨ew_, bb_ HB⟩
 subst c8
 have H1 : ((cohousinglaw05_place.f a2).bind fun t584 => ((cohousinglaw05_place.f a3).bind fun t585 => (if (wrap64 ((wrap64 ((mn 100000 (wrap64 (t584 + t585))) - t584)) + 1)) = 0 then (none) else ((piecewise_Below.f l0 l1 t584 (mn 100000 (wrap64 (t584 + t585)))).bind fun bt586 => ((cohousingref05_Value.f k l0 (wrap64 (t584 + (Int.tmod (wrap64 (a4)) (wrap64 ((wrap64 ((mn 100000 (wrap64 (t584 + t585))) - t584)) + 1)))))).bind fun bt589 => ((cohousingref05_Value.f k l1 (wrap64 (t584 + (Int.tmod (wrap64 (a4)) (wrap64 ((wrap64 ((mn 100000 (wrap64 (t584 + t585))) - t584)) + 1)))))).bind fun bt591 => ((cohousingref05_Compare.f bt589.1 bt589.2 bt591.1 bt591.2).bind fun t593 => (if bt586.2.2 = 0 then (cohousinglaw05_PiecewiseBelow.j0 k l0 l1 t582 t584 (mn 100000 (wrap64 (t584 + t585))) (wrap64 (t584 + (Int.tmod (wrap64 (a4)) (wrap64 ((wrap64 ((mn 100000 (wrap64 (t584 + t585))) - t584)) + 1))))) bt586.1 bt586.2.2 (decide (t593 < 0)) (!bt586.2.1)) else (cohousinglaw05_PiecewiseBelow.j0 k l0 l1 t582 t584 (mn 100000 (wrap64 (t584 + t585))) (wrap64 (t584 + (Int.tmod (wrap64 (a4)) (wrap64 ((wrap64 ((mn 100000 (wrap64 (t584 + t585))) - t584)) + 1))))) bt586.1 bt586.2.2 (decide (t593 < 0)) true))))))))) = some r := by rw [if_pos rfl] at H; exact H
 clear H
 have H := H1
 clear H1
 replace H := Option.bind_eq_some_iff.mp H
 obtain ⟨t584, A90, H⟩ := H
 replace H : ((cohousinglaw05_place.f a3).bind fun t585 => (if (wrap64 ((wrap64 ((mn 100000 (wrap64 (t584 + t585))) - t584)) + 1)) = 0 then (none) else ((piecewise_Below.f l0 l1 t584 (mn 100000 (wrap64 (t584 + t585)))).bind fun bt586 => ((cohousingref05_Value.f k l0 (wrap64 (t584 + (Int.tmod (wrap64 (a4)) (wrap64 ((wrap64 ((mn 100000 (wrap64 (t584 + t585))) - t584)) + 1)))))).bind fun bt589 => ((cohousingref05_Value.f k l1 (wrap64 (t584 + (Int.tmod (wrap64 (a4)) (wrap64 ((wrap64 ((mn 100000 (wrap64 (t584 + t585))) - t584)) + 1)))))).bind fun bt591 => ((cohousingref05_Compare.f bt589.1 bt589.2 bt591.1 bt591.2).bind fun t593 => (if bt586.2.2 = 0 then (cohousinglaw05_PiecewiseBelow.j0 k l0 l1 t582 t584 (mn 100000 (wrap64 (t584 + t585))) (wrap64 (t584 + (Int.tmod (wrap64 (a4)) (wrap64 ((wrap64 ((mn 100000 (wrap64 (t584 + t585))) - t584)) + 1))))) bt586.1 bt586.2.2 (decide (t593 < 0)) (!bt586.2.1)) else (cohousinglaw05_PiecewiseBelow.j0 k l0 l1 t582 t584 (mn 100000 (wrap64 (t584 + t585))) (wrap64 (t584 + (Int.tmod (wrap64 (a4)) (wrap64 ((wrap64 ((mn 100000 (wrap64 (t584 + t585))) - t584)) + 1))))) bt586.1 bt586.2.2 (decide (t593 < 0)) true)))))))) = some r := H
 have A9 := mk_ A90
 clear A90
 replace H := Option.bind_eq_some_iff.mp H
 obtain ⟨t585, A100, H⟩ := H
 replace H : (if (wrap64 ((wrap64 ((mn 100000 (wrap64 (t584 + t585))) - t584)) + 1)) = 0 then (none) else ((piecewise_Below.f l0 l1 t584 (mn 100000 (wrap64 (t584 + t585)))).bind fun bt586 => ((cohousingref05_Value.f k l0 (wrap64 (t584 + (Int.tmod (wrap64 (a4)) (wrap64 ((wrap64 ((mn 100000 (wrap64 (t584 + t585))) - t584)) + 1)))))).bind fun bt589 => ((cohousingref05_Value.f k l1 (wrap64 (t584 + (Int.tmod (wrap64 (a4)) (wrap64 ((wrap64 ((mn 100000 (wrap64 (t584 + t585))) - t584)) + 1)))))).bind fun bt591 => ((cohousingref05_Compare.f bt589.1 bt589.2 bt591.1 bt591.2).bind fun t593 => (if bt586.2.2 = 0 then (cohousinglaw05_PiecewiseBelow.j0 k l0 l1 t582 t584 (mn 100000 (wrap64 (t584 + t585))) (wrap64 (t584 + (Int.tmod (wrap64 (a4)) (wrap64 ((wrap64 ((mn 100000 (wrap64 (t584 + t585))) - t584)) + 1))))) bt586.1 bt586.2.2 (decide (t593 < 0)) (!bt586.2.1)) else (cohousinglaw05_PiecewiseBelow.j0 k l0 l1 t582 t584 (mn 100000 (wrap64 (t584 + t585))) (wrap64 (t584 + (Int.tmod (wrap64 (a4)) (wrap64 ((wrap64 ((mn 100000 (wrap64 (t584 + t585))) - t584)) + 1))))) bt586.1 bt586.2.2 (decide (t593 < 0)) true))))))) = some r := H
 have A10 := mk_ A100
 clear A100
 obtain ⟨ji11, hji11⟩ : ∃ j_ : Int, (mn 100000 (wrap64 (t584 + t585))) = j_ := ⟨_, rfl⟩
 replace H : (if (wrap64 ((wrap64 ((ji11) - t584)) + 1)) = 0 then (none) else ((piecewise_Below.f l0 l1 t584 (ji11)).bind fun bt586 => ((cohousingref05_Value.f k l0 (wrap64 (t584 + (Int.tmod (wrap64 (a4)) (wrap64 ((wrap64 ((ji11) - t584)) + 1)))))).bind fun bt589 => ((cohousingref05_Value.f k l1 (wrap64 (t584 + (Int.tmod (wrap64 (a4)) (wrap64 ((wrap64 ((ji11) - t584)) + 1)))))).bind fun bt591 => ((cohousingref05_Compare.f bt589.1 bt589.2 bt591.1 bt591.2).bind fun t593 => (if bt586.2.2 = 0 then (cohousinglaw05_PiecewiseBelow.j0 k l0 l1 t582 t584 ji11 (wrap64 (t584 + (Int.tmod (wrap64 (a4)) (wrap64 ((wrap64 ((ji11) - t584)) + 1))))) bt586.1 bt586.2.2 (decide (t593 < 0)) (!bt586.2.1)) else (cohousinglaw05_PiecewiseBelow.j0 k l0 l1 t582 t584 ji11 (wrap64 (t584 + (Int.tmod (wrap64 (a4)) (wrap64 ((wrap64 ((ji11) - t584)) + 1))))) bt586.1 bt586.2.2 (decide (t593 < 0)) true))))))) = some r := by first | (rw [hji11] at H; exact H) | (simp only [hji11] at H ⊢; exact H)
 (try rw [hji11] at A6)
 (try rw [hji11] at A7)
 (try rw [hji11] at A9)
 (try rw [hji11] at A10)
 (try (have hji11h : ji11 ≤ 100000 := by (rw [← hji11]; unfold mn; (repeat' split) <;> omega)))
 (try (have hji11g : ji11 ≤ 64 := by omega))
 have hji11_ : (if (wrap64 (t584 + t585)) < 100000 then (wrap64 (t584 + t585)) else 100000) = ji11 := hji11
 by_cases c12 : (wrap64 ((wrap64 ((ji11) - t584)) + 1)) = 0
 ·rw [if_pos c12] at H
  exact absurd H (by simp)
 rw [if_neg c12] at H
 have c12b0 : ((wrap64 ((wrap64 ((ji11) - t584)) + 1)) == 0) = false := beq_eq_false_iff_ne.mpr c12
 have c12b1 : ((wrap64 ((wrap64 ((ji11) - t584)) + 1)) != 0) = true := bne_iff_ne.mpr c12
 replace H := Option.bind_eq_some_iff.mp H
 obtain ⟨⟨t586, t587, t588⟩, A130, H⟩ := H
 replace H : ((cohousingref05_Value.f k l0 (wrap64 (t584 + (Int.tmod (wrap64 (a4)) (wrap64 ((wrap64 ((ji11) - t584)) + 1)))))).bind fun bt589 => ((cohousingref05_Value.f k l1 (wrap64 (t584 + (Int.tmod (wrap64 (a4)) (wrap64 ((wrap64 ((ji11) - t584)) + 1)))))).bind fun bt591 => ((cohousingref05_Compare.f bt589.1 bt589.2 bt591.1 bt591.2).bind fun t593 => (if t588 = 0 then (cohousinglaw05_PiecewiseBelow.j0 k l0 l1 t582 t584 ji11 (wrap64 (t584 + (Int.tmod (wrap64 (a4)) (wrap64 ((wrap64 ((ji11) - t584)) + 1))))) t586 t588 (decide (t593 < 0)) (!t587)) else (cohousinglaw05_PiecewiseBelow.j0 k l0 l1 t582 t584 ji11 (wrap64 (t584 + (Int.tmod (wrap64 (a4)) (wrap64 ((wrap64 ((ji11) - t584)) + 1))))) t586 t588 (decide (t593 < 0)) true))))) = some r := H
 have A13 := mk_ A130
 clear A130
 replace H := Option.bind_eq_some_iff.mp H
 obtain ⟨⟨t589, t590⟩, A140, H⟩ := H
 replace H : ((cohousingref05_Value.f k l1 (wrap64 (t584 + (Int.tmod (wrap64 (a4)) (wrap64 ((wrap64 ((ji11) - t584)) + 1)))))).bind fun bt591 => ((cohousingref05_Compare.f t589 t590 bt591.1 bt591.2).bind fun t593 => (if t588 = 0 then (cohousinglaw05_PiecewiseBelow.j0 k l0 l1 t582 t584 ji11 (wrap64 (t584 + (Int.tmod (wrap64 (a4)) (wrap64 ((wrap64 ((ji11) - t584)) + 1))))) t586 t588 (decide (t593 < 0)) (!t587)) else (cohousinglaw05_PiecewiseBelow.j0 k l0 l1 t582 t584 ji11 (wrap64 (t584 + (Int.tmod (wrap64 (a4)) (wrap64 ((wrap64 ((ji11) - t584)) + 1))))) t586 t588 (decide (t593 < 0)) true)))) = some r := H
 have A14 := mk_ A140
 clear A140
 replace H := Option.bind_eq_some_iff.mp H
 obtain ⟨⟨t591, t592⟩, A150, H⟩ := H
 replace H : ((cohousingref05_Compare.f t589 t590 t591 t592).bind fun t593 => (if t588 = 0 then (cohousinglaw05_PiecewiseBelow.j0 k l0 l1 t582 t584 ji11 (wrap64 (t584 + (Int.tmod (wrap64 (a4)) (wrap64 ((wrap64 ((ji11) - t584)) + 1))))) t586 t588 (decide (t593 < 0)) (!t587)) else (cohousinglaw05_PiecewiseBelow.j0 k l0 l1 t582 t584 ji11 (wrap64 (t584 + (Int.tmod (wrap64 (a4)) (wrap64 ((wrap64 ((ji11) - t584)) + 1))))) t586 t588 (decide (t593 < 0)) true))) = some r := H
 have A15 := mk_ A150
 clear A150
 replace H := Option.bind_eq_some_iff.mp H
 obtain ⟨t593, A160, H⟩ := H
 replace H : (if t588 = 0 then (cohousinglaw05_PiecewiseBelow.j0 k l0 l1 t582 t584 ji11 (wrap64 (t584 + (Int.tmod (wrap64 (a4)) (wrap64 ((wrap64 ((ji11) - t584)) + 1))))) t586 t588 (decide (t593 < 0)) (!t587)) else (cohousinglaw05_PiecewiseBelow.j0 k l0 l1 t582 t584 ji11 (wrap64 (t584 + (Int.tmod (wrap64 (a4)) (wrap64 ((wrap64 ((ji11) - t584)) + 1))))) t586 t588 (decide (t593 < 0)) true)) = some r := H
 have A16 := mk_ A160
 clear A160
 have HC17 := mk_ H
 clear H
 go_enter Try.func6, Try.ntmps6
 go_upto_region 9 with (first | ((with_reducible refine gate_callee (f := 10) rfl ?_); refine gl_ (some 19) Try.func10 #[] ?_; (with_reducible refine (cohousinglaw05_head.calls k  t582 _ A6.out).mono ?_); rintro e w18 ⟨rfl, hb⟩; refine ⟨_, rfl, ?_⟩; have n0_ := mk_ (below_step (bb_ HB) hb); clear HB; revert n0_; intro HB; (try clear hb); (try clear hb2); (try clear hk); (try clear hi)) | ((with_reducible refine gate_callee (f := 25) rfl ?_); refine gl_ (some 22) Try.func25 #[.slice A0 l0.length c0, .slice A1 l1.length c1] ?_; (with_reducible refine (cohousinglaw05_both.calls k _ _ l0 _ _ l1 true _ ?side1 ?side2 ?side3 ?side4 A7.out).mono ?_); (case side1 => exact cc_ ((Kd.C_below HR0.out HB.out))); (case side2 => exact HC0.out); (case side3 => exact cc_ ((Kd.C_below HR1.out HB.out))); (case side4 => exact HC1.out); rintro e w19 ⟨rfl, hb⟩; refine ⟨_, rfl, ?_⟩; have n0_ := mk_ (below_step (bb_ HB) hb); clear HB; revert n0_; intro HB; (try clear hb); (try clear hb2); (try clear hk); (try clear hi)) | ((with_reducible refine gate_callee (f := 26) rfl ?_); refine gl_ (some 26) Try.func26 #[.int .u32 a2] ?_; (with_reducible refine (cohousinglaw05_place.calls a2 t584 _ A9.out).mono ?_); rintro e w' ⟨rfl, ⟨nd, rfl⟩⟩; refine ⟨_, rfl, ?_⟩) | ((with_reducible refine gate_callee (f := 26) rfl ?_); refine gl_ (some 29) Try.func26 #[.int .u32 a3] ?_; (with_reducible refine (cohousinglaw05_place.calls a3 t585 _ A10.out).mono ?_); rintro e w' ⟨rfl, ⟨nd, rfl⟩⟩; refine ⟨_, rfl, ?_⟩) | ((with_reducible refine gate_callee (f := 23) rfl ?_); refine goesL_ (some 47) rfl rfl Try.func23 (by kernel_rfl) rfl #[.slice A0 l0.length c0, .slice A1 l1.length c1, .agg #[.int .i64 t584, .int .i64 ji11]] rfl (by (try simp only [List.map_toArray, List.map_cons, List.map_nil]); first | done | (simp only [hji11]; rfl) | rfl | (simp only [List.length_drop, List.length_take]; rfl)) ?_; (with_reducible refine (piecewise_Below.calls _ _ l0 _ _ l1 t584 ji11 t586 t587 t588 _ ?side1 ?side2 ?side3 ?side4 A13.out).mono ?_); (case side1 => exact cc_ ((Kd.C_below HR0.out (bb_ HB)))); (case side2 => exact HC0.out); (case side3 => exact cc_ ((Kd.C_below HR1.out (bb_ HB)))); (case side4 => exact HC1.out); rintro e w20 ⟨rfl, hb⟩; refine ⟨_, rfl, ?_⟩; have n0_ := mk_ (below_step (bb_ HB) hb); clear HB; revert n0_; intro HB; (try clear hb); (try clear hb2); (try clear hk); (try clear hi)) | ((with_reducible refine gate_callee (f := 27) rfl ?_); refine goesL_ (some 53) rfl rfl Try.func27 (by kernel_rfl) rfl #[.slice A0 l0.length c0, .int .i64 (wrap64 (t584 + (Int.tmod (wrap64 (a4)) (wrap64 ((wrap64 ((ji11) - t584)) + 1)))))] rfl (by (try simp only [List.map_toArray, List.map_cons, List.map_nil]); first | done | (simp only [hji11]; rfl) | rfl | (simp only [List.length_drop, List.length_take]; rfl)) ?_; (with_reducible refine (cohousingref05_Value.calls k _ _ l0 (wrap64 (t584 + (Int.tmod (wrap64 (a4)) (wrap64 ((wrap64 ((ji11) - t584)) + 1))))) t589 t590 _ ?side1 ?side2 A14.out).mono ?_); (case side1 => exact cc_ ((Kd.C_below HR0.out HB.out))); (case side2 => exact HC0.out); rintro e w21 ⟨rfl, hb⟩; refine ⟨_, rfl, ?_⟩; have n0_ := mk_ (below_step (bb_ HB) hb); clear HB; revert n0_; intro HB; (try clear hb); (try clear hb2); (try clear hk); (try clear hi)) | ((with_reducible refine gate_callee (f := 27) rfl ?_); refine goesL_ (some 56) rfl rfl Try.func27 (by kernel_rfl) rfl #[.slice A1 l1.length c1, .int .i64 (wrap64 (t584 + (Int.tmod (wrap64 (a4)) (wrap64 ((wrap64 ((ji11) - t584)) + 1)))))] rfl (by (try simp only [List.map_toArray, List.map_cons, List.map_nil]); first | done | (simp only [hji11]; rfl) | rfl | (simp only [List.length_drop, List.length_take]; rfl)) ?_; (with_reducible refine (cohousingref05_Value.calls k _ _ l1 (wrap64 (t584 + (Int.tmod (wrap64 (a4)) (wrap64 ((wrap64 ((ji11) - t584)) + 1))))) t591 t592 _ ?side1 ?side2 A15.out).mono ?_); (case side1 => exact cc_ ((Kd.C_below HR1.out HB.out))); (case side2 => exact HC1.out); rintro e w22 ⟨rfl, hb⟩; refine ⟨_, rfl, ?_⟩; have n0_ := mk_ (below_step (bb_ HB) hb); clear HB; revert n0_; intro HB; (try clear hb); (try clear hb2); (try clear hk); (try clear hi)) | ((with_reducible refine gate_callee (f := 29) rfl ?_); refine gl_ (some 57) Try.func29 #[.agg #[.int .i64 t589, .int .i64 t590], .agg #[.int .i64 t591, .int .i64 t592]] ?_; (with_reducible refine (cohousingref05_Compare.calls t589 t590 t591 t592 t593 _ A16.out).mono ?_); rintro e w23 ⟨rfl, hb⟩; refine ⟨_, rfl, ?_⟩; have n0_ := mk_ (below_step (bb_ HB) hb); clear HB; revert n0_; intro HB; (try clear hb); (try clear hb2); (try clear hk); (try clear hi)))
 (try simp only [Act.put, sI_, s0_, sS_])
 go_cut [64] (fun v64 wc => ∃ (kq : Nat) (x64_16 : Bool), v64 = .bool x64_16 ∧ Aside0 (cohousinglaw05_PiecewiseBelow.j0 kq l0 l1 t582 t584 ji11 (wrap64 (t584 + (Int.tmod (wrap64 (a4)) (wrap64 ((wrap64 ((ji11) - t584)) + 1))))) t586 t588 (decide (t593 < 0)) x64_16 = some r) ∧ Aside0 (kq ≤ k) ∧ Aside0 (Below w.heap.size w wc))
 case first =>
  have H := HC17.out
  clear HC17
  by_cases c24 : t588 = 0
  rotate_left
  ·rw [if_neg c24] at H
   have c24b0 : (t588 == 0) = false := beq_eq_false_iff_ne.mpr c24
   have c24b1 : (t588 != 0) = true := bne_iff_ne.mpr c24
   (first | rw [c24b0] | (simp only [i64_w, i32_w]; rw [c24b0]) | skip)
   have H' := mk_ H
   clear H
   go_wp2
   go_meet
   case rel => exact ⟨_, (true), sd_, H', ⟨by first | omega | exact Nat.le_refl _⟩, ⟨bb_ HB⟩⟩
  rw [if_pos c24] at H
  have c24b0 : (t588 == 0) = true := beq_iff_eq.mpr c24
  have c24b1 : (t588 != 0) = false := bne_eq_false_iff_eq.mpr c24
  clear c24
  (first | rw [c24b0] | (simp only [i64_w, i32_w]; rw [c24b0]) | skip)
  have H' := mk_ H
  clear H
  go_wp2
  go_meet
  case rel => exact ⟨_, (!t587), sd_, H', ⟨by first | omega | exact Nat.le_refl _⟩, ⟨bb_ HB⟩⟩
 case rest =>
  clear HC17
  try clear c1; try clear c2; try clear p2; try clear c6; try clear p6; try clear c8; try clear c10; try clear c12; try clear c12b0; try clear c12b1; try clear c23; try clear c24; try clear c24b0; try clear c24b1
  obtain ⟨kq, x64_16, rfl, HA, HJ16, HB⟩ := hcut
  cases kq with
  | zero => exact absurd HA.out (by simp [cohousinglaw05_PiecewiseBelow.j0])
  | succ kj16 =>
   have H := HA.out
   clear HA
   simp only [cohousinglaw05_PiecewiseBelow.j0] at H
   by_cases c25 : x64_16 = true
   ·subst c25
    have H1 : (if t582 = true then (if t588 = 0 then (if t586 = 0 then (some (!(decide (t593 < 0)))) else (some false)) else (some false)) else (some false)) = some r := by rw [if_pos rfl] at H; exact H
    clear H
    have H := H1
    clear H1
    by_cases c26 : t582 = true
    rotate_left
    ·replace c26 := Bool.eq_false_iff.mpr c26
     subst c26
     have H1 : (some false) = some r := by rw [if_neg (show ¬ (false = true) by decide)] at H; exact H
     clear H
     have H := H1
     clear H1
     obtain rfl := Option.some.inj H
     go_wp2
     go_ret
     exact ⟨by first | rfl | (simp [errW_none, errW_some] <;> rfl) | (simp only [← hji11]; first | rfl | (simp [errW_none, errW_some] <;> rfl)) | (simp [*, errW_none, errW_some] <;> rfl), bb_ HB⟩
    subst c26
    have H1 : (if t588 = 0 then (if t586 = 0 then (some (!(decide (t593 < 0)))) else (some false)) else (some false)) = some r := by rw [if_pos rfl] at H; exact H
    clear H
    have H := H1
    clear H1
    by_cases c27 : t588 = 0
    rotate_left
    ·rw [if_neg c27] at H
     have c27b0 : (t588 == 0) = false := beq_eq_false_iff_ne.mpr c27
     have c27b1 : (t588 != 0) = true := bne_iff_ne.mpr c27
     obtain rfl := Option.some.inj H
     go_wp2
     go_ret
     exact ⟨by first | rfl | (simp [errW_none, errW_some] <;> rfl) | (simp only [← hji11]; first | rfl | (simp [errW_none, errW_some] <;> rfl)) | (simp [*, errW_none, errW_some] <;> rfl), bb_ HB⟩
    rw [if_pos c27] at H
    have c27b0 : (t588 == 0) = true := beq_iff_eq.mpr c27
    have c27b1 : (t588 != 0) = false := bne_eq_false_iff_eq.mpr c27
    clear c27
    by_cases c28 : t586 = 0
    rotate_left
    ·rw [if_neg c28] at H
     have c28b0 : (t586 == 0) = false := beq_eq_false_iff_ne.mpr c28
     have c28b1 : (t586 != 0) = true := bne_iff_ne.mpr c28
     obtain rfl := Option.some.inj H
     go_wp2
     go_ret
     exact ⟨by first | rfl | (simp [errW_none, errW_some] <;> rfl) | (simp only [← hji11]; first | rfl | (simp [errW_none, errW_some] <;> rfl)) | (simp [*, errW_none, errW_some] <;> rfl), bb_ HB⟩
    rw [if_pos c28] at H
    have c28b0 : (t586 == 0) = true := beq_iff_eq.mpr c28
    have c28b1 : (t586 != 0) = false := bne_eq_false_iff_eq.mpr c28
    clear c28
    obtain rfl := Option.some.inj H
    go_wp2
    go_ret
    exact ⟨by first | rfl | (simp [errW_none, errW_some] <;> rfl) | (simp only [← hji11]; first | rfl | (simp [errW_none, errW_some] <;> rfl)) | (simp [*, errW_none, errW_some] <;> rfl), bb_ HB⟩
   replace c25 := Bool.eq_false_iff.mpr c25
   subst c25
   have H1 : (if t586 < t584 then (cohousinglaw05_PiecewiseBelow.j1 kj16 l0 l1 t582 (wrap64 (t584 + (Int.tmod (wrap64 (a4)) (wrap64 ((wrap64 ((ji11) - t584)) + 1))))) t586 (decide (t593 < 0)) true) else (cohousinglaw05_PiecewiseBelow.j1 kj16 l0 l1 t582 (wrap64 (t584 + (Int.tmod (wrap64 (a4)) (wrap64 ((wrap64 ((ji11) - t584)) + 1))))) t586 (decide (t593 < 0)) (decide (t586 > ji11)))) = some r := by rw [if_neg (show ¬ (false = true) by decide)] at H; exact H
   clear H
   have H := H1
   clear H1
   have HC29 := mk_ H
   clear H
   go_upto_region 11 with (fail)
   go_cut [85] (fun v85 wc => ∃ (kq : Nat) (x85_28 : Bool), v85 = .bool x85_28 ∧ Aside0 (cohousinglaw05_PiecewiseBelow.j1 kq l0 l1 t582 (wrap64 (t584 + (Int.tmod (wrap64 (a4)) (wrap64 ((wrap64 ((ji11) - t584)) + 1))))) t586 (decide (t593 < 0)) x85_28 = some r) ∧ Aside0 (kq ≤ kj16) ∧ Aside0 (Below w.heap.size w wc))
   case first =>
    have H := HC29.out
    clear HC29
    by_cases c30 : t586 < t584
    rotate_left
    ·rw [if_neg c30] at H
     have c30b0 : decide (t586 < t584) = false := decide_eq_false c30
     clear c30
     (first | rw [c30b0] | (simp only [i64_w, i32_w]; rw [c30b0]) | skip)
     have H' := mk_ H
     clear H
     go_wp2
     go_meet
     case rel => exact ⟨_, (decide (t586 > ji11)), (by first | rfl | (simp; done) | (simp only [← hji11] <;> (first | rfl | simp)) | (simp [*]; done)), H', ⟨by have := HJ16.out; first | omega | exact Nat.le_refl _⟩, ⟨bb_ HB⟩⟩
    rw [if_pos c30] at H
    have c30b0 : decide (t586 < t584) = true := decide_eq_true c30
    clear c30
    (first | rw [c30b0] | (simp only [i64_w, i32_w]; rw [c30b0]) | skip)
    have H' := mk_ H
    clear H
    go_wp2
    go_meet
    case rel => exact ⟨_, (true), sd_, H', ⟨by have := HJ16.out; first | omega | exact Nat.le_refl _⟩, ⟨bb_ HB⟩⟩
   case rest =>
    clear HC29
    try clear c1; try clear c2; try clear p2; try clear c3; try clear c6; try clear p6; try clear c8; try clear c10; try clear c12; try clear c12b0; try clear c12b1; try clear c23; try clear c24; try clear c24b0; try clear c24b1; try clear c25; try clear c26; try clear c27; try clear c27b0; try clear c27b1; try clear c28; try clear c28b0; try clear c28b1; try clear c29; try clear c30; try clear c30b0; try clear p2; try clear p6
    obtain ⟨kq, x85_28, rfl, HA, HJ28, HB⟩ := hcut
    cases kq with
    | zero => exact absurd HA.out (by simp [cohousinglaw05_PiecewiseBelow.j1])
    | succ kj28 =>
     have H := HA.out
     clear HA
     simp only [cohousinglaw05_PiecewiseBelow.j1] at H
     by_cases c31 : x85_28 = true
     ·subst c31
      have H1 : (some false) = some r := by rw [if_pos rfl] at H; exact H
      clear H
      have H := H1
      clear H1
      obtain rfl := Option.some.inj H
      go_wp2
      go_ret
      exact ⟨by first | rfl | (simp [errW_none, errW_some] <;> rfl) | (simp only [← hji11]; first | rfl | (simp [errW_none, errW_some] <;> rfl)) | (simp [*, errW_none, errW_some] <;> rfl), bb_ HB⟩
     replace c31 := Bool.eq_false_iff.mpr c31
     subst c31
     have H1 : (if t582 = true then ((cohousingref05_Value.f kj28 l0 t586).bind fun bt594 => ((cohousingref05_Value.f kj28 l1 t586).bind fun bt596 => ((cohousingref05_Compare.f bt594.1 bt594.2 bt596.1 bt596.2).bind fun t598 => (if t598 < 0 then (if (decide (t593 < 0)) = true then (some (decide ((wrap64 (t584 + (Int.tmod (wrap64 (a4)) (wrap64 ((wrap64 ((ji11) - t584)) + 1))))) ≥ t586))) else (some true)) else (some false))))) else (some false)) = some r := by rw [if_neg (show ¬ (false = true) by decide)] at H; exact H
     clear H
     have H := H1
     clear H1
     by_cases c32 : t582 = true
     rotate_left
     ·replace c32 := Bool.eq_false_iff.mpr c32
      subst c32
      have H1 : (some false) = some r := by rw [if_neg (show ¬ (false = true) by decide)] at H; exact H
      clear H
      have H := H1
      clear H1
      obtain rfl := Option.some.inj H
      go_wp2
      go_ret
      exact ⟨by first | rfl | (simp [errW_none, errW_some] <;> rfl) | (simp only [← hji11]; first | rfl | (simp [errW_none, errW_some] <;> rfl)) | (simp [*, errW_none, errW_some] <;> rfl), bb_ HB⟩
     subst c32
     have H1 : ((cohousingref05_Value.f kj28 l0 t586).bind fun bt594 => ((cohousingref05_Value.f kj28 l1 t586).bind fun bt596 => ((cohousingref05_Compare.f bt594.1 bt594.2 bt596.1 bt596.2).bind fun t598 => (if t598 < 0 then (if (decide (t593 < 0)) = true then (some (decide ((wrap64 (t584 + (Int.tmod (wrap64 (a4)) (wrap64 ((wrap64 ((ji11) - t584)) + 1))))) ≥ t586))) else (some true)) else (some false))))) = some r := by rw [if_pos rfl] at H; exact H
     clear H
     have H := H1
     clear H1
     replace H := Option.bind_eq_some_iff.mp H
     obtain ⟨⟨t594, t595⟩, A330, H⟩ := H
     replace H : ((cohousingref05_Value.f kj28 l1 t586).bind fun bt596 => ((cohousingref05_Compare.f t594 t595 bt596.1 bt596.2).bind fun t598 => (if t598 < 0 then (if (decide (t593 < 0)) = true then (some (decide ((wrap64 (t584 + (Int.tmod (wrap64 (a4)) (wrap64 ((wrap64 ((ji11) - t584)) + 1))))) ≥ t586))) else (some true)) else (some false)))) = some r := H
     have A33 := mk_ A330
     clear A330
     replace H := Option.bind_eq_some_iff.mp H
     obtain ⟨⟨t596, t597⟩, A340, H⟩ := H
     replace H : ((cohousingref05_Compare.f t594 t595 t596 t597).bind fun t598 => (if t598 < 0 then (if (decide (t593 < 0)) = true then (some (decide ((wrap64 (t584 + (Int.tmod (wrap64 (a4)) (wrap64 ((wrap64 ((ji11) - t584)) + 1))))) ≥ t586))) else (some true)) else (some false))) = some r := H
     have A34 := mk_ A340
     clear A340
     replace H := Option.bind_eq_some_iff.mp H
     obtain ⟨t598, A350, H⟩ := H
     replace H : (if t598 < 0 then (if (decide (t593 < 0)) = true then (some (decide ((wrap64 (t584 + (Int.tmod (wrap64 (a4)) (wrap64 ((wrap64 ((ji11) - t584)) + 1))))) ≥ t586))) else (some true)) else (some false)) = some r := H
     have A35 := mk_ A350
     clear A350
     by_cases c36 : t598 < 0
     rotate_left
     ·rw [if_neg c36] at H
      have c36b0 : decide (t598 < 0) = false := decide_eq_false c36
      clear c36
      obtain rfl := Option.some.inj H
      go_wp2_with (first | (go_at_call 27; (with_reducible refine (cohousingref05_Value.calls kj28 _ _ l0 t586 t594 t595 _ ?side1 ?side2 A33.out).mono ?_); (case side1 => exact cc_ ((Kd.C_below HR0.out HB.out))); (case side2 => exact HC0.out); rintro e w44 ⟨rfl, hb⟩; have n0_ := mk_ (below_step (bb_ HB) hb); clear HB; revert n0_; intro HB; (try clear hb); (try clear hb2); (try clear hk); (try clear hi)) | (go_at_call 27; (with_reducible refine (cohousingref05_Value.calls kj28 _ _ l1 t586 t596 t597 _ ?side1 ?side2 A34.out).mono ?_); (case side1 => exact cc_ ((Kd.C_below HR1.out HB.out))); (case side2 => exact HC1.out); rintro e w45 ⟨rfl, hb⟩; have n0_ := mk_ (below_step (bb_ HB) hb); clear HB; revert n0_; intro HB; (try clear hb); (try clear hb2); (try clear hk); (try clear hi)) | (go_at_call 29; (with_reducible refine (cohousingref05_Compare.calls t594 t595 t596 t597 t598 _ A35.out).mono ?_); rintro e w46 ⟨rfl, hb⟩; have n0_ := mk_ (below_step (bb_ HB) hb); clear HB; revert n0_; intro HB; (try clear hb); (try clear hb2); (try clear hk); (try clear hi)))
      go_ret
      exact ⟨by first | rfl | (simp [errW_none, errW_some] <;> rfl) | (simp only [← hji11]; first | rfl | (simp [errW_none, errW_some] <;> rfl)) | (simp [*, errW_none, errW_some] <;> rfl), bb_ HB⟩
     rw [if_pos c36] at H
     have c36b0 : decide (t598 < 0) = true := decide_eq_true c36
     clear c36
     by_cases c37 : (decide (t593 < 0)) = true
     rotate_left
     ·rw [if_neg c37] at H
      have c37b0 : (decide (t593 < 0)) = false := by simpa using c37
      clear c37
      obtain rfl := Option.some.inj H
      go_wp2_with (first | (go_at_call 27; (with_reducible refine (cohousingref05_Value.calls kj28 _ _ l0 t586 t594 t595 _ ?side1 ?side2 A33.out).mono ?_); (case side1 => exact cc_ ((Kd.C_below HR0.out HB.out))); (case side2 => exact HC0.out); rintro e w41 ⟨rfl, hb⟩; have n0_ := mk_ (below_step (bb_ HB) hb); clear HB; revert n0_; intro HB; (try clear hb); (try clear hb2); (try clear hk); (try clear hi)) | (go_at_call 27; (with_reducible refine (cohousingref05_Value.calls kj28 _ _ l1 t586 t596 t597 _ ?side1 ?side2 A34.out).mono ?_); (case side1 => exact cc_ ((Kd.C_below HR1.out HB.out))); (case side2 => exact HC1.out); rintro e w42 ⟨rfl, hb⟩; have n0_ := mk_ (below_step (bb_ HB) hb); clear HB; revert n0_; intro HB; (try clear hb); (try clear hb2); (try clear hk); (try clear hi)) | (go_at_call 29; (with_reducible refine (cohousingref05_Compare.calls t594 t595 t596 t597 t598 _ A35.out).mono ?_); rintro e w43 ⟨rfl, hb⟩; have n0_ := mk_ (below_step (bb_ HB) hb); clear HB; revert n0_; intro HB; (try clear hb); (try clear hb2); (try clear hk); (try clear hi)))
      go_ret
      exact ⟨by first | rfl | (simp [errW_none, errW_some] <;> rfl) | (simp only [← hji11]; first | rfl | (simp [errW_none, errW_some] <;> rfl)) | (simp [*, errW_none, errW_some] <;> rfl), bb_ HB⟩
     rw [if_pos c37] at H
     have c37b0 : (decide (t593 < 0)) = true := c37
     clear c37
     obtain rfl := Option.some.inj H
     go_wp2_with (first | (go_at_call 27; (with_reducible refine (cohousingref05_Value.calls kj28 _ _ l0 t586 t594 t595 _ ?side1 ?side2 A33.out).mono ?_); (case side1 => exact cc_ ((Kd.C_below HR0.out HB.out))); (case side2 => exact HC0.out); rintro e w38 ⟨rfl, hb⟩; have n0_ := mk_ (below_step (bb_ HB) hb); clear HB; revert n0_; intro HB; (try clear hb); (try clear hb2); (try clear hk); (try clear hi)) | (go_at_call 27; (with_reducible refine (cohousingref05_Value.calls kj28 _ _ l1 t586 t596 t597 _ ?side1 ?side2 A34.out).mono ?_); (case side1 => exact cc_ ((Kd.C_below HR1.out HB.out))); (case side2 => exact HC1.out); rintro e w39 ⟨rfl, hb⟩; have n0_ := mk_ (below_step (bb_ HB) hb); clear HB; revert n0_; intro HB; (try clear hb); (try clear hb2); (try clear hk); (try clear hi)) | (go_at_call 29; (with_reducible refine (cohousingref05_Compare.calls t594 t595 t596 t597 t598 _ A35.out).mono ?_); rintro e w40 ⟨rfl, hb⟩; have n0_ := mk_ (below_step (bb_ HB) hb); clear HB; revert n0_; intro HB; (try clear hb); (try clear hb2); (try clear hk); (try clear hi)))
     go_ret
     exact ⟨by first | rfl | (simp [errW_none, errW_some] <;> rfl) | (simp only [← hji11]; first | rfl | (simp [errW_none, errW_some] <;> rfl)) | (simp [*, errW_none, errW_some] <;> rfl), bb_ HB⟩
end
end Go.Proofs.Ytmhimmodigeeiaa.P
end
section
namespace Go.Proofs.Ytmhimmodigeeiaa.P
open Go.RowKit Go.Proofs.YtmhimmodigeeiaaW.PrintWords Go.Proofs.YtmhimmodigeeiaaW.PrintLast Go.Proofs.YtmhimmodigeeiaaW.PrintMore
set_option linter.unusedVariables false
set_option linter.unusedSimpArgs false
open Classical
theorem below_ (f g : List PC) (hIf : ∀ p ∈ f, IBP p) (hIg : ∀ p ∈ g, IBP p) (a b c : Int) (ha : 0 ≤ a ∧ a ≤ 4294967295) (hb : 0 ≤ b ∧ b ≤ 4294967295) (hc : 0 ≤ c ∧ c ≤ 4294967295) : Ev (fun k => cohousinglaw05_PiecewiseBelow.f k f g a b c) true := by
 obtain ⟨bb, hb1, hb2⟩ := both_ev f g hIf hIg
 unfold cohousinglaw05_PiecewiseBelow.f
 refine Ev.bnd head_ev (Ev.bnd hb1 ?_)
 cases bb with
 | false =>
  simp only [Bool.false_eq_true, if_false]
  exact Ev.pure _
 | true =>
  obtain ⟨hf, hg⟩ := hb2 rfl
  obtain ⟨lo, hlo, h0, h1⟩ := place_eq ha.1 ha.2
  obtain ⟨sz, hsz, s0, s1⟩ := place_eq hb.1 hb.2
  have e1 : wrap64 (lo + sz) = lo + sz := wrap_id (by omega) (by omega)
  obtain ⟨hi, hhi⟩ : ∃ hi, hi = mn 100000 (lo + sz) := ⟨_, rfl⟩
  have hh : lo ≤ hi ∧ hi ≤ 100000 := by rw [hhi]; unfold mn; split <;> omega
  have e2 : wrap64 (wrap64 (hi - lo) + 1) = hi - lo + 1 := by rw [wrap_id (n := hi - lo) (by omega) (by omega), wrap_id (by omega) (by omega)]
  have e3 : ¬ hi - lo + 1 = 0 := by omega
  have ec : wrap64 c = c := wrap_id (by omega) (by omega)
  have hm := tmod_in hc.1 (show 0 < hi - lo + 1 by omega)
  obtain ⟨y, hy⟩ : ∃ y, y = lo + Int.tmod c (hi - lo + 1) := ⟨_, rfl⟩
  have ey : wrap64 (lo + Int.tmod c (hi - lo + 1)) = y := by rw [hy]; exact wrap_id (by omega) (by omega)
  have hy0 : lo ≤ y ∧ y ≤ hi := by omega
  obtain ⟨r, hr, hB⟩ := below_eq hf hg h0 hh.1 hh.2
  simp only [if_true, hlo, hsz, Option.bind_some, e1, ← hhi, e2, e3, if_false, ec, ey, hr]
  obtain ⟨i, hi'⟩ := ex_at hf (show 0 ≤ y by omega)
  obtain ⟨k, hk⟩ := ex_at hg (show 0 ≤ y by omega)
  obtain ⟨d, hd1, hd2, hd3⟩ := cmp_ev (hf.lb hi'.1) (hg.lb hk.1) (show 0 ≤ y by omega) (show y ≤ 100001 by omega)
  have hL := LT_iff hf hg hi' hk
  refine Ev.bnd (value_ev hf hi' (by omega) (by omega)) (Ev.bnd (value_ev hg hk (by omega) (by omega)) ?_)
  simp only [hd1, Option.bind_some]
  clear e1 e2 ec ey
  rcases hB with ⟨v, rfl, a1, a2, a3, a4⟩ | ⟨rfl, a1⟩
  ·have n1 : ¬ v < lo := by omega
   have n2 : ¬ v > hi := by omega
   simp only [if_true, Bool.not_true]
   refine Ev.step ?_
   simp only [cohousinglaw05_PiecewiseBelow.j0, Bool.false_eq_true, if_false, n1, n2, decide_false]
   refine Ev.step ?_
   simp only [cohousinglaw05_PiecewiseBelow.j1, Bool.false_eq_true, if_false, if_true]
   obtain ⟨i2, j2⟩ := ex_at hf (show 0 ≤ v by omega)
   obtain ⟨k2, l2⟩ := ex_at hg (show 0 ≤ v by omega)
   obtain ⟨d', hd1', hd2', hd3'⟩ := cmp_ev (hf.lb j2.1) (hg.lb l2.1) (show 0 ≤ v by omega) (show v ≤ 100001 by omega)
   have hL2 := LT_iff hf hg j2 l2
   refine Ev.bnd (value_ev hf j2 (by omega) (by omega)) (Ev.bnd (value_ev hg l2 (by omega) (by omega)) ?_)
   have hneg : d' < 0 := hd2'.2 (hL2.1 a3)
   simp only [hd1', Option.bind_some, hneg, if_true]
   by_cases hdd : d < 0
   ·have hge : y ≥ v := by
     rcases Int.lt_or_le y v with h | h
     ·exact absurd (hL.2 (hd2.1 hdd)) (a4 y hy0.1 h)
     ·exact h
    simp only [hdd, decide_true, if_true, hge]
    exact Ev.pure _
   ·simp only [hdd, decide_false, Bool.false_eq_true, if_false]
    exact Ev.pure _
  ·have hdd : ¬ d < 0 := fun h => a1 y hy0.1 hy0.2 (hL.2 (hd2.1 h))
   simp only [if_true, Bool.not_false]
   refine Ev.step ?_
   simp only [cohousinglaw05_PiecewiseBelow.j0, if_true, hdd, decide_false, Bool.not_false]
   exact Ev.pure _
end Go.Proofs.Ytmhimmodigeeiaa.P
end
