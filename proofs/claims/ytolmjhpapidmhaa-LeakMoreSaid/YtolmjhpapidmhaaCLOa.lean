/- Part 1 of the proof of LeakMore: what it alone needs. -/
import Derived.Test.YtolmjhpapidmhaaCBe
set_option linter.unusedVariables false
set_option linter.unusedSimpArgs false
section
namespace Go.Proofs.Ytolmjhpapidmhaa.P
open Go.RowKit Go.Proofs.YtolmjhpapidmhaaW.PrintWords Go.Proofs.YtolmjhpapidmhaaW.PrintLast Go.Proofs.YtolmjhpapidmhaaW.PrintMore
attribute [local go_sem] max2_int min2_int max_two min_two max_three min_three max_four min_four
set_option linter.unusedVariables false
set_option linter.unusedSimpArgs false
set_option maxHeartbeats 8000000
set_option maxRecDepth 100000
section
def cohousinglaw30_LeakMore.j0 : Nat → List (S44) → List (S46) → Int → Int → Bool → Bool → Option (Bool)
 | 0, _, _, _, _, _, _ => none
 | k + 1, x0, x1, x2, x3, x9, x34 => if x34 = true then (some x9) else ((leak_Explain.f x0 x1 x2).bind fun bt449 => ((leak_Explain.f x0 x1 x3).bind fun bt454 => ((leak_Sure.f x0 x1 x2).bind fun bt459 => ((leak_Sure.f x0 x1 x3).bind fun bt463 => (if bt449.2.1 = true then (if x9 = true then (if bt449.2.2 = 0 then (if bt454.2.2 = 0 then (if bt454.2.1 = true then ((cohousingref30_Same.f k bt449.1 bt454.1).bind fun t467 => (if t467 = true then (if bt459.2 = 0 then (if bt463.2 = 0 then ((cohousingref30_Same.f k bt459.1 bt463.1).bind fun t468 => (some t468)) else (some false)) else (some false)) else (some false))) else (some false)) else (some false)) else (some false)) else (some false)) else (if x9 = true then (if bt449.2.2 = 0 then (if bt454.2.2 = 0 then (if bt459.2 = 4 then (if bt454.2.1 = true then (some (decide ((bt454.1.length : Int) > x2))) else (some true)) else (some false)) else (some false)) else (some false)) else (some false)))))))
def cohousinglaw30_LeakMore.f (k : Nat) (l0 : List (S44)) (l1 : List (S46)) (a2 : Int) (a3 : Int) : Option (Bool) := (cohousinglaw30_head.f k).bind fun t447 => ((cohousinglaw30_usable.f k l0 l1 a2).bind fun t448 => (if t448 = true then (if a3 < a2 then (cohousinglaw30_LeakMore.j0 k l0 l1 a2 a3 t447 true) else (cohousinglaw30_LeakMore.j0 k l0 l1 a2 a3 t447 (decide (a3 > 3)))) else (cohousinglaw30_LeakMore.j0 k l0 l1 a2 a3 t447 true)))
theorem cohousinglaw30_LeakMore.calls (k : Nat) (A0 : Option Addr) (c0 : Nat) (l0 : List (S44)) (A1 : Option Addr) (c1 : Nat) (l1 : List (S46)) (a2 : Int) (a3 : Int) (r : Bool) (w : World) (hr0 : Kd.C k44 w A0 l0.length l0) (hc0 : l0.length ≤ c0) (hr1 : Kd.C k46 w A1 l1.length l1) (hc1 : l1.length ≤ c1) (h : cohousinglaw30_LeakMore.f k l0 l1 a2 a3 = some r) :
  Calls Try.prog 8 #[.slice A0 l0.length c0, .slice A1 l1.length c1, .int .i64 a2, .int .i64 a3] w fun e w' => e = .returned (.bool r) ∧ Below w.heap.size w w' := by
 have HR0 := Aside0.mk hr0
 have HC0 := Aside0.mk hc0
 clear hr0 hc0
 have HR1 := Aside0.mk hr1
 have HC1 := Aside0.mk hc1
 clear hr1 hc1
 have HB := Aside0.mk (Below.refl w.heap.size w)
 have H : ((cohousinglaw30_head.f k).bind fun t447 => ((cohousinglaw30_usable.f k l0 l1 a2).bind fun t448 => (if t448 = true then (if a3 < a2 then (cohousinglaw30_LeakMore.j0 k l0 l1 a2 a3 t447 true) else (cohousinglaw30_LeakMore.j0 k l0 l1 a2 a3 t447 (decide (a3 > 3)))) else (cohousinglaw30_LeakMore.j0 k l0 l1 a2 a3 t447 true)))) = some r := h
 clear h
 replace H := Option.bind_eq_some_iff.mp H
 obtain ⟨t447, A50, H⟩ := H
 replace H : ((cohousinglaw30_usable.f k l0 l1 a2).bind fun t448 => (if t448 = true then (if a3 < a2 then (cohousinglaw30_LeakMore.j0 k l0 l1 a2 a3 t447 true) else (cohousinglaw30_LeakMore.j0 k l0 l1 a2 a3 t447 (decide (a3 > 3)))) else (cohousinglaw30_LeakMore.j0 k l0 l1 a2 a3 t447 true))) = some r := H
 have A5 := Aside0.mk A50
 clear A50
 have HC6 := Aside0.mk H
 clear H
 go_enter Try.func8, Try.ntmps8
 go_upto_region 2 with (first | ((with_reducible refine gate_callee (f := 11) rfl ?_); refine gl_ (some 20) Try.func11 #[] ?_; (with_reducible refine (cohousinglaw30_head.calls k  t447 _ A5.out).mono ?_); rintro e w7 ⟨rfl, hb⟩; refine ⟨_, rfl, ?_⟩; have n0_ := Aside0.mk (below_step (bb_ HB) hb); clear HB; have HB := n0_; clear n0_; (try clear hb); (try clear hb2); (try clear hk); (try clear hi)))
 (try simp only [Act.put, sI_, s0_, sS_])
 go_cut [34] (fun v34 wc => ∃ (kq : Nat) (x34_5 : Bool), v34 = .bool x34_5 ∧ Aside0 (cohousinglaw30_LeakMore.j0 kq l0 l1 a2 a3 t447 x34_5 = some r) ∧ Aside0 (kq ≤ k) ∧ Aside0 (Below w.heap.size w wc))
 case first =>
  have H := HC6.out
  clear HC6
  replace H := Option.bind_eq_some_iff.mp H
  obtain ⟨t448, A80, H⟩ := H
  replace H : (if t448 = true then (if a3 < a2 then (cohousinglaw30_LeakMore.j0 k l0 l1 a2 a3 t447 true) else (cohousinglaw30_LeakMore.j0 k l0 l1 a2 a3 t447 (decide (a3 > 3)))) else (cohousinglaw30_LeakMore.j0 k l0 l1 a2 a3 t447 true)) = some r := H
  have A8 := Aside0.mk A80
  clear A80
  by_cases c9 : t448 = true
  ·subst c9
   have H1 : (if a3 < a2 then (cohousinglaw30_LeakMore.j0 k l0 l1 a2 a3 t447 true) else (cohousinglaw30_LeakMore.j0 k l0 l1 a2 a3 t447 (decide (a3 > 3)))) = some r := by rw [if_pos rfl] at H; exact H
   clear H
   have H := H1
   clear H1
   by_cases c10 : a3 < a2
   ·rw [if_pos c10] at H
    have c10b0 : decide (a3 < a2) = true := decide_eq_true c10
    clear c10
    (first | rw [c10b0] | (simp only [i64_w, i32_w]; rw [c10b0]) | skip)
    have H' := Aside0.mk H
    clear H
    go_wp2_with (first | ((with_reducible refine gate_callee (f := 18) rfl ?_); refine gl_ (some 24) Try.func18 #[.slice A0 l0.length c0, .slice A1 l1.length c1, .int .i64 a2] ?_; (with_reducible refine (cohousinglaw30_usable.calls k _ _ l0 _ _ l1 a2 true _ ?side1 ?side2 ?side3 ?side4 A8.out).mono ?_); (case side1 => exact cc_ ((Kd.C_below HR0.out HB.out))); (case side2 => exact HC0.out); (case side3 => exact cc_ ((Kd.C_below HR1.out HB.out))); (case side4 => exact HC1.out); rintro e w11 ⟨rfl, hb⟩; refine ⟨_, rfl, ?_⟩; have n0_ := Aside0.mk (below_step (bb_ HB) hb); clear HB; have HB := n0_; clear n0_; (try clear hb); (try clear hb2); (try clear hk); (try clear hi)))
    go_meet
    case rel => exact ⟨_, (true), sd_, H', ⟨by first | omega | exact Nat.le_refl _⟩, ⟨by repeat (first | (with_reducible first | exact HB.out | apply below_alloc | apply pw_below_drewN | apply below_drew1) | exact HB.out)⟩⟩
   ·rw [if_neg c10] at H
    have c10b0 : decide (a3 < a2) = false := decide_eq_false c10
    clear c10
    (first | rw [c10b0] | (simp only [i64_w, i32_w]; rw [c10b0]) | skip)
    have H' := Aside0.mk H
    clear H
    go_wp2_with (first | ((with_reducible refine gate_callee (f := 18) rfl ?_); refine gl_ (some 24) Try.func18 #[.slice A0 l0.length c0, .slice A1 l1.length c1, .int .i64 a2] ?_; (with_reducible refine (cohousinglaw30_usable.calls k _ _ l0 _ _ l1 a2 true _ ?side1 ?side2 ?side3 ?side4 A8.out).mono ?_); (case side1 => exact cc_ ((Kd.C_below HR0.out HB.out))); (case side2 => exact HC0.out); (case side3 => exact cc_ ((Kd.C_below HR1.out HB.out))); (case side4 => exact HC1.out); rintro e w12 ⟨rfl, hb⟩; refine ⟨_, rfl, ?_⟩; have n0_ := Aside0.mk (below_step (bb_ HB) hb); clear HB; have HB := n0_; clear n0_; (try clear hb); (try clear hb2); (try clear hk); (try clear hi)))
    go_meet
    case rel => exact ⟨_, (decide (a3 > 3)), sd_, H', ⟨by first | omega | exact Nat.le_refl _⟩, ⟨by repeat (first | (with_reducible first | exact HB.out | apply below_alloc | apply pw_below_drewN | apply below_drew1) | exact HB.out)⟩⟩
  ·replace c9 := Bool.eq_false_iff.mpr c9
   subst c9
   have H1 : (cohousinglaw30_LeakMore.j0 k l0 l1 a2 a3 t447 true) = some r := by rw [if_neg (show ¬ (false = true) by decide)] at H; exact H
   clear H
   have H := H1
   clear H1
   have H' := Aside0.mk H
   clear H
   go_wp2_with (first | ((with_reducible refine gate_callee (f := 18) rfl ?_); refine gl_ (some 24) Try.func18 #[.slice A0 l0.length c0, .slice A1 l1.length c1, .int .i64 a2] ?_; (with_reducible refine (cohousinglaw30_usable.calls k _ _ l0 _ _ l1 a2 false _ ?side1 ?side2 ?side3 ?side4 A8.out).mono ?_); (case side1 => exact cc_ ((Kd.C_below HR0.out HB.out))); (case side2 => exact HC0.out); (case side3 => exact cc_ ((Kd.C_below HR1.out HB.out))); (case side4 => exact HC1.out); rintro e w13 ⟨rfl, hb⟩; refine ⟨_, rfl, ?_⟩; have n0_ := Aside0.mk (below_step (bb_ HB) hb); clear HB; have HB := n0_; clear n0_; (try clear hb); (try clear hb2); (try clear hk); (try clear hi)))
   go_meet
   case rel => exact ⟨_, (true), sd_, H', ⟨by first | omega | exact Nat.le_refl _⟩, ⟨by repeat (first | (with_reducible first | exact HB.out | apply below_alloc | apply pw_below_drewN | apply below_drew1) | exact HB.out)⟩⟩
 case rest =>
  clear HC6
  try clear c1
  try clear p2
  try clear c8
  try clear c9
  try clear c10
  try clear c10b0
  try clear c11
  obtain ⟨kq, x34_5, rfl, HA, HJ5, HB⟩ := hcut
  cases kq with
  | zero => exact absurd HA.out (by simp [cohousinglaw30_LeakMore.j0])
  | succ kj5 =>
   have H := HA.out
   clear HA
   simp only [cohousinglaw30_LeakMore.j0] at H
   by_cases c14 : x34_5 = true
   ·subst c14
    have H1 : (some t447) = some r := by rw [if_pos rfl] at H; exact H
    clear H
    have H := H1
    clear H1
    obtain rfl := Option.some.inj H
    go_wp2
    go_ret
    exact ⟨ew_, by repeat (first | (with_reducible first | exact HB.out | apply below_alloc | apply pw_below_drewN | apply below_drew1) | exact HB.out)⟩
   ·replace c14 := Bool.eq_false_iff.mpr c14
    subst c14
    have H1 : ((leak_Explain.f l0 l1 a2).bind fun bt449 => ((leak_Explain.f l0 l1 a3).bind fun bt454 => ((leak_Sure.f l0 l1 a2).bind fun bt459 => ((leak_Sure.f l0 l1 a3).bind fun bt463 => (if bt449.2.1 = true then (if t447 = true then (if bt449.2.2 = 0 then (if bt454.2.2 = 0 then (if bt454.2.1 = true then ((cohousingref30_Same.f kj5 bt449.1 bt454.1).bind fun t467 => (if t467 = true then (if bt459.2 = 0 then (if bt463.2 = 0 then ((cohousingref30_Same.f kj5 bt459.1 bt463.1).bind fun t468 => (some t468)) else (some false)) else (some false)) else (some false))) else (some false)) else (some false)) else (some false)) else (some false)) else (if t447 = true then (if bt449.2.2 = 0 then (if bt454.2.2 = 0 then (if bt459.2 = 4 then (if bt454.2.1 = true then (some (decide ((bt454.1.length : Int) > a2))) else (some true)) else (some false)) else (some false)) else (some false)) else (some false))))))) = some r := by rw [if_neg (show ¬ (false = true) by decide)] at H; exact H
    clear H
    have H := H1
    clear H1
    replace H := Option.bind_eq_some_iff.mp H
    obtain ⟨⟨t449, t450, t451⟩, A150, H⟩ := H
    replace H : ((leak_Explain.f l0 l1 a3).bind fun bt454 => ((leak_Sure.f l0 l1 a2).bind fun bt459 => ((leak_Sure.f l0 l1 a3).bind fun bt463 => (if t450 = true then (if t447 = true then (if t451 = 0 then (if bt454.2.2 = 0 then (if bt454.2.1 = true then ((cohousingref30_Same.f kj5 t449 bt454.1).bind fun t467 => (if t467 = true then (if bt459.2 = 0 then (if bt463.2 = 0 then ((cohousingref30_Same.f kj5 bt459.1 bt463.1).bind fun t468 => (some t468)) else (some false)) else (some false)) else (some false))) else (some false)) else (some false)) else (some false)) else (some false)) else (if t447 = true then (if t451 = 0 then (if bt454.2.2 = 0 then (if bt459.2 = 4 then (if bt454.2.1 = true then (some (decide ((bt454.1.length : Int) > a2))) else (some true)) else (some false)) else (some false)) else (some false)) else (some false)))))) = some r := H
    have A15 := Aside0.mk A150
    clear A150
    replace H := Option.bind_eq_some_iff.mp H
    obtain ⟨⟨t454, t455, t456⟩, A160, H⟩ := H
    replace H : ((leak_Sure.f l0 l1 a2).bind fun bt459 => ((leak_Sure.f l0 l1 a3).bind fun bt463 => (if t450 = true then (if t447 = true then (if t451 = 0 then (if t456 = 0 then (if t455 = true then ((cohousingref30_Same.f kj5 t449 t454).bind fun t467 => (if t467 = true then (if bt459.2 = 0 then (if bt463.2 = 0 then ((cohousingref30_Same.f kj5 bt459.1 bt463.1).bind fun t468 => (some t468)) else (some false)) else (some false)) else (some false))) else (some false)) else (some false)) else (some false)) else (some false)) else (if t447 = true then (if t451 = 0 then (if t456 = 0 then (if bt459.2 = 4 then (if t455 = true then (some (decide ((t454.length : Int) > a2))) else (some true)) else (some false)) else (some false)) else (some false)) else (some false))))) = some r := H
    have A16 := Aside0.mk A160
    clear A160
    replace H := Option.bind_eq_some_iff.mp H
    obtain ⟨⟨t459, t460⟩, A170, H⟩ := H
    replace H : ((leak_Sure.f l0 l1 a3).bind fun bt463 => (if t450 = true then (if t447 = true then (if t451 = 0 then (if t456 = 0 then (if t455 = true then ((cohousingref30_Same.f kj5 t449 t454).bind fun t467 => (if t467 = true then (if t460 = 0 then (if bt463.2 = 0 then ((cohousingref30_Same.f kj5 t459 bt463.1).bind fun t468 => (some t468)) else (some false)) else (some false)) else (some false))) else (some false)) else (some false)) else (some false)) else (some false)) else (if t447 = true then (if t451 = 0 then (if t456 = 0 then (if t460 = 4 then (if t455 = true then (some (decide ((t454.length : Int) > a2))) else (some true)) else (some false)) else (some false)) else (some false)) else (some false)))) = some r := H
    have A17 := Aside0.mk A170
    clear A170
    replace H := Option.bind_eq_some_iff.mp H
    obtain ⟨⟨t463, t464⟩, A180, H⟩ := H
    replace H : (if t450 = true then (if t447 = true then (if t451 = 0 then (if t456 = 0 then (if t455 = true then ((cohousingref30_Same.f kj5 t449 t454).bind fun t467 => (if t467 = true then (if t460 = 0 then (if t464 = 0 then ((cohousingref30_Same.f kj5 t459 t463).bind fun t468 => (some t468)) else (some false)) else (some false)) else (some false))) else (some false)) else (some false)) else (some false)) else (some false)) else (if t447 = true then (if t451 = 0 then (if t456 = 0 then (if t460 = 4 then (if t455 = true then (some (decide ((t454.length : Int) > a2))) else (some true)) else (some false)) else (some false)) else (some false)) else (some false))) = some r := H
    have A18 := Aside0.mk A180
    clear A180
    by_cases c19 : t450 = true
    ·subst c19
     have H1 : (if t447 = true then (if t451 = 0 then (if t456 = 0 then (if t455 = true then ((cohousingref30_Same.f kj5 t449 t454).bind fun t467 => (if t467 = true then (if t460 = 0 then (if t464 = 0 then ((cohousingref30_Same.f kj5 t459 t463).bind fun t468 => (some t468)) else (some false)) else (some false)) else (some false))) else (some false)) else (some false)) else (some false)) else (some false)) = some r := by rw [if_pos rfl] at H; exact H
     clear H
     have H := H1
     clear H1
     by_cases c20 : t447 = true
     ·subst c20
      have H1 : (if t451 = 0 then (if t456 = 0 then (if t455 = true then ((cohousingref30_Same.f kj5 t449 t454).bind fun t467 => (if t467 = true then (if t460 = 0 then (if t464 = 0 then ((cohousingref30_Same.f kj5 t459 t463).bind fun t468 => (some t468)) else (some false)) else (some false)) else (some false))) else (some false)) else (some false)) else (some false)) = some r := by rw [if_pos rfl] at H; exact H
      clear H
      have H := H1
      clear H1
      by_cases c21 : t451 = 0
      ·rw [if_pos c21] at H
       have c21b0 : (t451 == 0) = true := beq_iff_eq.mpr c21
       have c21b1 : (t451 != 0) = false := bne_eq_false_iff_eq.mpr c21
       clear c21
       by_cases c22 : t456 = 0
       ·rw [if_pos c22] at H
        have c22b0 : (t456 == 0) = true := beq_iff_eq.mpr c22
        have c22b1 : (t456 != 0) = false := bne_eq_false_iff_eq.mpr c22
        clear c22
        by_cases c23 : t455 = true
        ·subst c23
         have H1 : ((cohousingref30_Same.f kj5 t449 t454).bind fun t467 => (if t467 = true then (if t460 = 0 then (if t464 = 0 then ((cohousingref30_Same.f kj5 t459 t463).bind fun t468 => (some t468)) else (some false)) else (some false)) else (some false))) = some r := by rw [if_pos rfl] at H; exact H
         clear H
         have H := H1
         clear H1
         replace H := Option.bind_eq_some_iff.mp H
         obtain ⟨t467, A240, H⟩ := H
         replace H : (if t467 = true then (if t460 = 0 then (if t464 = 0 then ((cohousingref30_Same.f kj5 t459 t463).bind fun t468 => (some t468)) else (some false)) else (some false)) else (some false)) = some r := H
         have A24 := Aside0.mk A240
         clear A240
         by_cases c25 : t467 = true
         ·subst c25
          have H1 : (if t460 = 0 then (if t464 = 0 then ((cohousingref30_Same.f kj5 t459 t463).bind fun t468 => (some t468)) else (some false)) else (some false)) = some r := by rw [if_pos rfl] at H; exact H
          clear H
          have H := H1
          clear H1
          by_cases c26 : t460 = 0
          ·rw [if_pos c26] at H
           have c26b0 : (t460 == 0) = true := beq_iff_eq.mpr c26
           have c26b1 : (t460 != 0) = false := bne_eq_false_iff_eq.mpr c26
           clear c26
           by_cases c27 : t464 = 0
           ·rw [if_pos c27] at H
            have c27b0 : (t464 == 0) = true := beq_iff_eq.mpr c27
            have c27b1 : (t464 != 0) = false := bne_eq_false_iff_eq.mpr c27
            clear c27
            replace H := Option.bind_eq_some_iff.mp H
            obtain ⟨t468, A280, H⟩ := H
            replace H : (some t468) = some r := H
            have A28 := Aside0.mk A280
            clear A280
            obtain rfl := Option.some.inj H
            go_wp2_with (first | ((with_reducible refine gate_callee (f := 13) rfl ?_); refine gl_ (some 40) Try.func13 #[.slice A0 l0.length c0, .slice A1 l1.length c1, .int .i64 a2] ?_; (with_reducible refine (leak_Explain.calls _ _ l0 _ _ l1 a2 t449 true t451 _ ?side1 ?side2 ?side3 ?side4 A15.out).mono ?_); (case side1 => exact cc_ ((Kd.C_below HR0.out HB.out))); (case side2 => exact HC0.out); (case side3 => exact cc_ ((Kd.C_below HR1.out HB.out))); (case side4 => exact HC1.out); rintro e w29 ⟨v452, rfl, ho0, hb⟩; refine ⟨_, rfl, ?_⟩; have n0_ := Aside0.mk (Kd.R_lower ho0 (below_size (bb_ HB))); have n1_ := Aside0.mk (below_step (bb_ HB) hb); clear HB; have HO453 := n0_; have HB := n1_; clear n0_ n1_; (try clear hb); (try clear hb2); (try clear hk); (try clear hi); (try clear ho0)) | ((with_reducible refine gate_callee (f := 13) rfl ?_); refine gl_ (some 48) Try.func13 #[.slice A0 l0.length c0, .slice A1 l1.length c1, .int .i64 a3] ?_; (with_reducible refine (leak_Explain.calls _ _ l0 _ _ l1 a3 t454 true t456 _ ?side1 ?side2 ?side3 ?side4 A16.out).mono ?_); (case side1 => exact cc_ ((Kd.C_below HR0.out HB.out))); (case side2 => exact HC0.out); (case side3 => exact cc_ ((Kd.C_below HR1.out HB.out))); (case side4 => exact HC1.out); rintro e w30 ⟨v457, rfl, ho0, hb⟩; refine ⟨_, rfl, ?_⟩; have n0_ := Aside0.mk (Kd.R_elder' (rr_ HO453) (Kd.R_base ho0) hb); have n1_ := Aside0.mk (Kd.R_lower (Kd.R_new' ho0 (Kd.R_lt (rr_ HO453))) (below_size (bb_ HB))); have n2_ := Aside0.mk (below_step (bb_ HB) hb); clear HO453; clear HB; have HO453 := n0_; have HO458 := n1_; have HB := n2_; clear n0_ n1_ n2_; (try clear hb); (try clear hb2); (try clear hk); (try clear hi); (try clear ho0)) | ((with_reducible refine gate_callee (f := 16) rfl ?_); refine gl_ (some 56) Try.func16 #[.slice A0 l0.length c0, .slice A1 l1.length c1, .int .i64 a2] ?_; (with_reducible refine (leak_Sure.calls _ _ l0 _ _ l1 a2 t459 t460 _ ?side1 ?side2 ?side3 ?side4 A17.out).mono ?_); (case side1 => exact cc_ ((Kd.C_below HR0.out HB.out))); (case side2 => exact HC0.out); (case side3 => exact cc_ ((Kd.C_below HR1.out HB.out))); (case side4 => exact HC1.out); rintro e w31 ⟨v461, rfl, ho0, hb⟩; refine ⟨_, rfl, ?_⟩; have n0_ := Aside0.mk (Kd.R_elder' (rr_ HO453) (Kd.R_base ho0) hb); have n1_ := Aside0.mk (Kd.R_elder' (rr_ HO458) (Kd.R_base ho0) hb); have n2_ := Aside0.mk (Kd.R_lower (Kd.R_new' (Kd.R_new' ho0 (Kd.R_lt (rr_ HO453))) (Kd.R_lt (rr_ HO458))) (below_size (bb_ HB))); have n3_ := Aside0.mk (below_step (bb_ HB) hb); clear HO453; clear HO458; clear HB; have HO453 := n0_; have HO458 := n1_; have HO462 := n2_; have HB := n3_; clear n0_ n1_ n2_ n3_; (try clear hb); (try clear hb2); (try clear hk); (try clear hi); (try clear ho0)) | ((with_reducible refine gate_callee (f := 16) rfl ?_); refine gl_ (some 63) Try.func16 #[.slice A0 l0.length c0, .slice A1 l1.length c1, .int .i64 a3] ?_; (with_reducible refine (leak_Sure.calls _ _ l0 _ _ l1 a3 t463 t464 _ ?side1 ?side2 ?side3 ?side4 A18.out).mono ?_); (case side1 => exact cc_ ((Kd.C_below HR0.out HB.out))); (case side2 => exact HC0.out); (case side3 => exact cc_ ((Kd.C_below HR1.out HB.out))); (case side4 => exact HC1.out); rintro e w32 ⟨v465, rfl, ho0, hb⟩; refine ⟨_, rfl, ?_⟩; have n0_ := Aside0.mk (Kd.R_elder' (rr_ HO453) (Kd.R_base ho0) hb); have n1_ := Aside0.mk (Kd.R_elder' (rr_ HO458) (Kd.R_base ho0) hb); have n2_ := Aside0.mk (Kd.R_elder' (rr_ HO462) (Kd.R_base ho0) hb); have n3_ := Aside0.mk (Kd.R_lower (Kd.R_new' (Kd.R_new' (Kd.R_new' ho0 (Kd.R_lt (rr_ HO453))) (Kd.R_lt (rr_ HO458))) (Kd.R_lt (rr_ HO462))) (below_size (bb_ HB))); have n4_ := Aside0.mk (below_step (bb_ HB) hb); clear HO453; clear HO458; clear HO462; clear HB; have HO453 := n0_; have HO458 := n1_; have HO462 := n2_; have HO466 := n3_; have HB := n4_; clear n0_ n1_ n2_ n3_ n4_; (try clear hb); (try clear hb2); (try clear hk); (try clear hi); (try clear ho0); obtain ⟨Ao33, co33, eo33⟩ := Kd.R_slice HO453.out; subst eo33; obtain ⟨Ao34, co34, eo34⟩ := Kd.R_slice HO458.out; subst eo34) | (go_at_call 15; (with_reducible refine (cohousingref30_Same.calls kj5 _ _ t449 _ _ t454 true _ ?side1 ?side2 ?side3 ?side4 A24.out).mono ?_); (case side1 => exact cc_ ((Kd.R_reads' HO453.out).2.2)); (case side2 => exact (Kd.R_reads' HO453.out).2.1); (case side3 => exact cc_ ((Kd.R_reads' HO458.out).2.2)); (case side4 => exact (Kd.R_reads' HO458.out).2.1); rintro e w' ⟨rfl, ⟨nd, rfl⟩⟩; obtain ⟨Ao35, co35, eo35⟩ := Kd.R_slice HO462.out; subst eo35; obtain ⟨Ao36, co36, eo36⟩ := Kd.R_slice HO466.out; subst eo36) | (go_at_call 15; (with_reducible refine (cohousingref30_Same.calls kj5 _ _ t459 _ _ t463 t468 _ ?side1 ?side2 ?side3 ?side4 A28.out).mono ?_); (case side1 => exact cc_ ((Kd.R_reads' HO462.out).2.2)); (case side2 => exact (Kd.R_reads' HO462.out).2.1); (case side3 => exact cc_ ((Kd.R_reads' HO466.out).2.2)); (case side4 => exact (Kd.R_reads' HO466.out).2.1); rintro e w' ⟨rfl, ⟨nd, rfl⟩⟩))
            go_ret
            exact ⟨ew_, by repeat (first | (with_reducible first | exact HB.out | apply below_alloc | apply pw_below_drewN | apply below_drew1) | exact HB.out)⟩
           ·rw [if_neg c27] at H
            have c27b0 : (t464 == 0) = false := beq_eq_false_iff_ne.mpr c27
            have c27b1 : (t464 != 0) = true := bne_iff_ne.mpr c27
            obtain rfl := Option.some.inj H
            go_wp2_with (first | ((with_reducible refine gate_callee (f := 13) rfl ?_); refine gl_ (some 40) Try.func13 #[.slice A0 l0.length c0, .slice A1 l1.length c1, .int .i64 a2] ?_; (with_reducible refine (leak_Explain.calls _ _ l0 _ _ l1 a2 t449 true t451 _ ?side1 ?side2 ?side3 ?side4 A15.out).mono ?_); (case side1 => exact cc_ ((Kd.C_below HR0.out HB.out))); (case side2 => exact HC0.out); (case side3 => exact cc_ ((Kd.C_below HR1.out HB.out))); (case side4 => exact HC1.out); rintro e w37 ⟨v452, rfl, ho0, hb⟩; refine ⟨_, rfl, ?_⟩; have n0_ := Aside0.mk (Kd.R_lower ho0 (below_size (bb_ HB))); have n1_ := Aside0.mk (below_step (bb_ HB) hb); clear HB; have HO453 := n0_; have HB := n1_; clear n0_ n1_; (try clear hb); (try clear hb2); (try clear hk); (try clear hi); (try clear ho0)) | ((with_reducible refine gate_callee (f := 13) rfl ?_); refine gl_ (some 48) Try.func13 #[.slice A0 l0.length c0, .slice A1 l1.length c1, .int .i64 a3] ?_; (with_reducible refine (leak_Explain.calls _ _ l0 _ _ l1 a3 t454 true t456 _ ?side1 ?side2 ?side3 ?side4 A16.out).mono ?_); (case side1 => exact cc_ ((Kd.C_below HR0.out HB.out))); (case side2 => exact HC0.out); (case side3 => exact cc_ ((Kd.C_below HR1.out HB.out))); (case side4 => exact HC1.out); rintro e w38 ⟨v457, rfl, ho0, hb⟩; refine ⟨_, rfl, ?_⟩; have n0_ := Aside0.mk (Kd.R_elder' (rr_ HO453) (Kd.R_base ho0) hb); have n1_ := Aside0.mk (Kd.R_lower (Kd.R_new' ho0 (Kd.R_lt (rr_ HO453))) (below_size (bb_ HB))); have n2_ := Aside0.mk (below_step (bb_ HB) hb); clear HO453; clear HB; have HO453 := n0_; have HO458 := n1_; have HB := n2_; clear n0_ n1_ n2_; (try clear hb); (try clear hb2); (try clear hk); (try clear hi); (try clear ho0)) | ((with_reducible refine gate_callee (f := 16) rfl ?_); refine gl_ (some 56) Try.func16 #[.slice A0 l0.length c0, .slice A1 l1.length c1, .int .i64 a2] ?_; (with_reducible refine (leak_Sure.calls _ _ l0 _ _ l1 a2 t459 t460 _ ?side1 ?side2 ?side3 ?side4 A17.out).mono ?_); (case side1 => exact cc_ ((Kd.C_below HR0.out HB.out))); (case side2 => exact HC0.out); (case side3 => exact cc_ ((Kd.C_below HR1.out HB.out))); (case side4 => exact HC1.out); rintro e w39 ⟨v461, rfl, ho0, hb⟩; refine ⟨_, rfl, ?_⟩; have n0_ := Aside0.mk (Kd.R_elder' (rr_ HO453) (Kd.R_base ho0) hb); have n1_ := Aside0.mk (Kd.R_elder' (rr_ HO458) (Kd.R_base ho0) hb); have n2_ := Aside0.mk (Kd.R_lower (Kd.R_new' (Kd.R_new' ho0 (Kd.R_lt (rr_ HO453))) (Kd.R_lt (rr_ HO458))) (below_size (bb_ HB))); have n3_ := Aside0.mk (below_step (bb_ HB) hb); clear HO453; clear HO458; clear HB; have HO453 := n0_; have HO458 := n1_; have HO462 := n2_; have HB := n3_; clear n0_ n1_ n2_ n3_; (try clear hb); (try clear hb2); (try clear hk); (try clear hi); (try clear ho0)) | ((with_reducible refine gate_callee (f := 16) rfl ?_); refine gl_ (some 63) Try.func16 #[.slice A0 l0.length c0, .slice A1 l1.length c1, .int .i64 a3] ?_; (with_reducible refine (leak_Sure.calls _ _ l0 _ _ l1 a3 t463 t464 _ ?side1 ?side2 ?side3 ?side4 A18.out).mono ?_); (case side1 => exact cc_ ((Kd.C_below HR0.out HB.out))); (case side2 => exact HC0.out); (case side3 => exact cc_ ((Kd.C_below HR1.out HB.out))); (case side4 => exact HC1.out); rintro e w40 ⟨v465, rfl, ho0, hb⟩; refine ⟨_, rfl, ?_⟩; have n0_ := Aside0.mk (Kd.R_elder' (rr_ HO453) (Kd.R_base ho0) hb); have n1_ := Aside0.mk (Kd.R_elder' (rr_ HO458) (Kd.R_base ho0) hb); have n2_ := Aside0.mk (Kd.R_elder' (rr_ HO462) (Kd.R_base ho0) hb); have n3_ := Aside0.mk (Kd.R_lower (Kd.R_new' (Kd.R_new' (Kd.R_new' ho0 (Kd.R_lt (rr_ HO453))) (Kd.R_lt (rr_ HO458))) (Kd.R_lt (rr_ HO462))) (below_size (bb_ HB))); have n4_ := Aside0.mk (below_step (bb_ HB) hb); clear HO453; clear HO458; clear HO462; clear HB; have HO453 := n0_; have HO458 := n1_; have HO462 := n2_; have HO466 := n3_; have HB := n4_; clear n0_ n1_ n2_ n3_ n4_; (try clear hb); (try clear hb2); (try clear hk); (try clear hi); (try clear ho0); obtain ⟨Ao41, co41, eo41⟩ := Kd.R_slice HO453.out; subst eo41; obtain ⟨Ao42, co42, eo42⟩ := Kd.R_slice HO458.out; subst eo42) | (go_at_call 15; (with_reducible refine (cohousingref30_Same.calls kj5 _ _ t449 _ _ t454 true _ ?side1 ?side2 ?side3 ?side4 A24.out).mono ?_); (case side1 => exact cc_ ((Kd.R_reads' HO453.out).2.2)); (case side2 => exact (Kd.R_reads' HO453.out).2.1); (case side3 => exact cc_ ((Kd.R_reads' HO458.out).2.2)); (case side4 => exact (Kd.R_reads' HO458.out).2.1); rintro e w' ⟨rfl, ⟨nd, rfl⟩⟩))
            go_ret
            exact ⟨ew_, by repeat (first | (with_reducible first | exact HB.out | apply below_alloc | apply pw_below_drewN | apply below_drew1) | exact HB.out)⟩
          ·rw [if_neg c26] at H
           have c26b0 : (t460 == 0) = false := beq_eq_false_iff_ne.mpr c26
           have c26b1 : (t460 != 0) = true := bne_iff_ne.mpr c26
           obtain rfl := Option.some.inj H
           go_wp2_with (first | ((with_reducible refine gate_callee (f := 13) rfl ?_); refine gl_ (some 40) Try.func13 #[.slice A0 l0.length c0, .slice A1 l1.length c1, .int .i64 a2] ?_; (with_reducible refine (leak_Explain.calls _ _ l0 _ _ l1 a2 t449 true t451 _ ?side1 ?side2 ?side3 ?side4 A15.out).mono ?_); (case side1 => exact cc_ ((Kd.C_below HR0.out HB.out))); (case side2 => exact HC0.out); (case side3 => exact cc_ ((Kd.C_below HR1.out HB.out))); (case side4 => exact HC1.out); rintro e w43 ⟨v452, rfl, ho0, hb⟩; refine ⟨_, rfl, ?_⟩; have n0_ := Aside0.mk (Kd.R_lower ho0 (below_size (bb_ HB))); have n1_ := Aside0.mk (below_step (bb_ HB) hb); clear HB; have HO453 := n0_; have HB := n1_; clear n0_ n1_; (try clear hb); (try clear hb2); (try clear hk); (try clear hi); (try clear ho0)) | ((with_reducible refine gate_callee (f := 13) rfl ?_); refine gl_ (some 48) Try.func13 #[.slice A0 l0.length c0, .slice A1 l1.length c1, .int .i64 a3] ?_; (with_reducible refine (leak_Explain.calls _ _ l0 _ _ l1 a3 t454 true t456 _ ?side1 ?side2 ?side3 ?side4 A16.out).mono ?_); (case side1 => exact cc_ ((Kd.C_below HR0.out HB.out))); (case side2 => exact HC0.out); (case side3 => exact cc_ ((Kd.C_below HR1.out HB.out))); (case side4 => exact HC1.out); rintro e w44 ⟨v457, rfl, ho0, hb⟩; refine ⟨_, rfl, ?_⟩; have n0_ := Aside0.mk (Kd.R_elder' (rr_ HO453) (Kd.R_base ho0) hb); have n1_ := Aside0.mk (Kd.R_lower (Kd.R_new' ho0 (Kd.R_lt (rr_ HO453))) (below_size (bb_ HB))); have n2_ := Aside0.mk (below_step (bb_ HB) hb); clear HO453; clear HB; have HO453 := n0_; have HO458 := n1_; have HB := n2_; clear n0_ n1_ n2_; (try clear hb); (try clear hb2); (try clear hk); (try clear hi); (try clear ho0)) | ((with_reducible refine gate_callee (f := 16) rfl ?_); refine gl_ (some 56) Try.func16 #[.slice A0 l0.length c0, .slice A1 l1.length c1, .int .i64 a2] ?_; (with_reducible refine (leak_Sure.calls _ _ l0 _ _ l1 a2 t459 t460 _ ?side1 ?side2 ?side3 ?side4 A17.out).mono ?_); (case side1 => exact cc_ ((Kd.C_below HR0.out HB.out))); (case side2 => exact HC0.out); (case side3 => exact cc_ ((Kd.C_below HR1.out HB.out))); (case side4 => exact HC1.out); rintro e w45 ⟨v461, rfl, ho0, hb⟩; refine ⟨_, rfl, ?_⟩; have n0_ := Aside0.mk (Kd.R_elder' (rr_ HO453) (Kd.R_base ho0) hb); have n1_ := Aside0.mk (Kd.R_elder' (rr_ HO458) (Kd.R_base ho0) hb); have n2_ := Aside0.mk (Kd.R_lower (Kd.R_new' (Kd.R_new' ho0 (Kd.R_lt (rr_ HO453))) (Kd.R_lt (rr_ HO458))) (below_size (bb_ HB))); have n3_ := Aside0.mk (below_step (bb_ HB) hb); clear HO453; clear HO458; clear HB; have HO453 := n0_; have HO458 := n1_; have HO462 := n2_; have HB := n3_; clear n0_ n1_ n2_ n3_; (try clear hb); (try clear hb2); (try clear hk); (try clear hi); (try clear ho0)) | ((with_reducible refine gate_callee (f := 16) rfl ?_); refine gl_ (some 63) Try.func16 #[.slice A0 l0.length c0, .slice A1 l1.length c1, .int .i64 a3] ?_; (with_reducible refine (leak_Sure.calls _ _ l0 _ _ l1 a3 t463 t464 _ ?side1 ?side2 ?side3 ?side4 A18.out).mono ?_); (case side1 => exact cc_ ((Kd.C_below HR0.out HB.out))); (case side2 => exact HC0.out); (case side3 => exact cc_ ((Kd.C_below HR1.out HB.out))); (case side4 => exact HC1.out); rintro e w46 ⟨v465, rfl, ho0, hb⟩; refine ⟨_, rfl, ?_⟩; have n0_ := Aside0.mk (Kd.R_elder' (rr_ HO453) (Kd.R_base ho0) hb); have n1_ := Aside0.mk (Kd.R_elder' (rr_ HO458) (Kd.R_base ho0) hb); have n2_ := Aside0.mk (Kd.R_elder' (rr_ HO462) (Kd.R_base ho0) hb); have n3_ := Aside0.mk (Kd.R_lower (Kd.R_new' (Kd.R_new' (Kd.R_new' ho0 (Kd.R_lt (rr_ HO453))) (Kd.R_lt (rr_ HO458))) (Kd.R_lt (rr_ HO462))) (below_size (bb_ HB))); have n4_ := Aside0.mk (below_step (bb_ HB) hb); clear HO453; clear HO458; clear HO462; clear HB; have HO453 := n0_; have HO458 := n1_; have HO462 := n2_; have HO466 := n3_; have HB := n4_; clear n0_ n1_ n2_ n3_ n4_; (try clear hb); (try clear hb2); (try clear hk); (try clear hi); (try clear ho0); obtain ⟨Ao47, co47, eo47⟩ := Kd.R_slice HO453.out; subst eo47; obtain ⟨Ao48, co48, eo48⟩ := Kd.R_slice HO458.out; subst eo48) | (go_at_call 15; (with_reducible refine (cohousingref30_Same.calls kj5 _ _ t449 _ _ t454 true _ ?side1 ?side2 ?side3 ?side4 A24.out).mono ?_); (case side1 => exact cc_ ((Kd.R_reads' HO453.out).2.2)); (case side2 => exact (Kd.R_reads' HO453.out).2.1); (case side3 => exact cc_ ((Kd.R_reads' HO458.out).2.2)); (case side4 => exact (Kd.R_reads' HO458.out).2.1); rintro e w' ⟨rfl, ⟨nd, rfl⟩⟩))
           go_ret
           exact ⟨ew_, by repeat (first | (with_reducible first | exact HB.out | apply below_alloc | apply pw_below_drewN | apply below_drew1) | exact HB.out)⟩
         ·replace c25 := Bool.eq_false_iff.mpr c25
          subst c25
          have H1 : (some false) = some r := by rw [if_neg (show ¬ (false = true) by decide)] at H; exact H
          clear H
          have H := H1
          clear H1
          obtain rfl := Option.some.inj H
          go_wp2_with (first | ((with_reducible refine gate_callee (f := 13) rfl ?_); refine gl_ (some 40) Try.func13 #[.slice A0 l0.length c0, .slice A1 l1.length c1, .int .i64 a2] ?_; (with_reducible refine (leak_Explain.calls _ _ l0 _ _ l1 a2 t449 true t451 _ ?side1 ?side2 ?side3 ?side4 A15.out).mono ?_); (case side1 => exact cc_ ((Kd.C_below HR0.out HB.out))); (case side2 => exact HC0.out); (case side3 => exact cc_ ((Kd.C_below HR1.out HB.out))); (case side4 => exact HC1.out); rintro e w49 ⟨v452, rfl, ho0, hb⟩; refine ⟨_, rfl, ?_⟩; have n0_ := Aside0.mk (Kd.R_lower ho0 (below_size (bb_ HB))); have n1_ := Aside0.mk (below_step (bb_ HB) hb); clear HB; have HO453 := n0_; have HB := n1_; clear n0_ n1_; (try clear hb); (try clear hb2); (try clear hk); (try clear hi); (try clear ho0)) | ((with_reducible refine gate_callee (f := 13) rfl ?_); refine gl_ (some 48) Try.func13 #[.slice A0 l0.length c0, .slice A1 l1.length c1, .int .i64 a3] ?_; (with_reducible refine (leak_Explain.calls _ _ l0 _ _ l1 a3 t454 true t456 _ ?side1 ?side2 ?side3 ?side4 A16.out).mono ?_); (case side1 => exact cc_ ((Kd.C_below HR0.out HB.out))); (case side2 => exact HC0.out); (case side3 => exact cc_ ((Kd.C_below HR1.out HB.out))); (case side4 => exact HC1.out); rintro e w50 ⟨v457, rfl, ho0, hb⟩; refine ⟨_, rfl, ?_⟩; have n0_ := Aside0.mk (Kd.R_elder' (rr_ HO453) (Kd.R_base ho0) hb); have n1_ := Aside0.mk (Kd.R_lower (Kd.R_new' ho0 (Kd.R_lt (rr_ HO453))) (below_size (bb_ HB))); have n2_ := Aside0.mk (below_step (bb_ HB) hb); clear HO453; clear HB; have HO453 := n0_; have HO458 := n1_; have HB := n2_; clear n0_ n1_ n2_; (try clear hb); (try clear hb2); (try clear hk); (try clear hi); (try clear ho0)) | ((with_reducible refine gate_callee (f := 16) rfl ?_); refine gl_ (some 56) Try.func16 #[.slice A0 l0.length c0, .slice A1 l1.length c1, .int .i64 a2] ?_; (with_reducible refine (leak_Sure.calls _ _ l0 _ _ l1 a2 t459 t460 _ ?side1 ?side2 ?side3 ?side4 A17.out).mono ?_); (case side1 => exact cc_ ((Kd.C_below HR0.out HB.out))); (case side2 => exact HC0.out); (case side3 => exact cc_ ((Kd.C_below HR1.out HB.out))); (case side4 => exact HC1.out); rintro e w51 ⟨v461, rfl, ho0, hb⟩; refine ⟨_, rfl, ?_⟩; have n0_ := Aside0.mk (Kd.R_elder' (rr_ HO453) (Kd.R_base ho0) hb); have n1_ := Aside0.mk (Kd.R_elder' (rr_ HO458) (Kd.R_base ho0) hb); have n2_ := Aside0.mk (Kd.R_lower (Kd.R_new' (Kd.R_new' ho0 (Kd.R_lt (rr_ HO453))) (Kd.R_lt (rr_ HO458))) (below_size (bb_ HB))); have n3_ := Aside0.mk (below_step (bb_ HB) hb); clear HO453; clear HO458; clear HB; have HO453 := n0_; have HO458 := n1_; have HO462 := n2_; have HB := n3_; clear n0_ n1_ n2_ n3_; (try clear hb); (try clear hb2); (try clear hk); (try clear hi); (try clear ho0)) | ((with_reducible refine gate_callee (f := 16) rfl ?_); refine gl_ (some 63) Try.func16 #[.slice A0 l0.length c0, .slice A1 l1.length c1, .int .i64 a3] ?_; (with_reducible refine (leak_Sure.calls _ _ l0 _ _ l1 a3 t463 t464 _ ?side1 ?side2 ?side3 ?side4 A18.out).mono ?_); (case side1 => exact cc_ ((Kd.C_below HR0.out HB.out))); (case side2 => exact HC0.out); (case side3 => exact cc_ ((Kd.C_below HR1.out HB.out))); (case side4 => exact HC1.out); rintro e w52 ⟨v465, rfl, ho0, hb⟩; refine ⟨_, rfl, ?_⟩; have n0_ := Aside0.mk (Kd.R_elder' (rr_ HO453) (Kd.R_base ho0) hb); have n1_ := Aside0.mk (Kd.R_elder' (rr_ HO458) (Kd.R_base ho0) hb); have n2_ := Aside0.mk (Kd.R_elder' (rr_ HO462) (Kd.R_base ho0) hb); have n3_ := Aside0.mk (Kd.R_lower (Kd.R_new' (Kd.R_new' (Kd.R_new' ho0 (Kd.R_lt (rr_ HO453))) (Kd.R_lt (rr_ HO458))) (Kd.R_lt (rr_ HO462))) (below_size (bb_ HB))); have n4_ := Aside0.mk (below_step (bb_ HB) hb); clear HO453; clear HO458; clear HO462; clear HB; have HO453 := n0_; have HO458 := n1_; have HO462 := n2_; have HO466 := n3_; have HB := n4_; clear n0_ n1_ n2_ n3_ n4_; (try clear hb); (try clear hb2); (try clear hk); (try clear hi); (try clear ho0); obtain ⟨Ao53, co53, eo53⟩ := Kd.R_slice HO453.out; subst eo53; obtain ⟨Ao54, co54, eo54⟩ := Kd.R_slice HO458.out; subst eo54) | (go_at_call 15; (with_reducible refine (cohousingref30_Same.calls kj5 _ _ t449 _ _ t454 false _ ?side1 ?side2 ?side3 ?side4 A24.out).mono ?_); (case side1 => exact cc_ ((Kd.R_reads' HO453.out).2.2)); (case side2 => exact (Kd.R_reads' HO453.out).2.1); (case side3 => exact cc_ ((Kd.R_reads' HO458.out).2.2)); (case side4 => exact (Kd.R_reads' HO458.out).2.1); rintro e w' ⟨rfl, ⟨nd, rfl⟩⟩))
          go_ret
          exact ⟨ew_, by repeat (first | (with_reducible first | exact HB.out | apply below_alloc | apply pw_below_drewN | apply below_drew1) | exact HB.out)⟩
        ·replace c23 := Bool.eq_false_iff.mpr c23
         subst c23
         have H1 : (some false) = some r := by rw [if_neg (show ¬ (false = true) by decide)] at H; exact H
         clear H
         have H := H1
         clear H1
         obtain rfl := Option.some.inj H
         go_wp2_with (first | ((with_reducible refine gate_callee (f := 13) rfl ?_); refine gl_ (some 40) Try.func13 #[.slice A0 l0.length c0, .slice A1 l1.length c1, .int .i64 a2] ?_; (with_reducible refine (leak_Explain.calls _ _ l0 _ _ l1 a2 t449 true t451 _ ?side1 ?side2 ?side3 ?side4 A15.out).mono ?_); (case side1 => exact cc_ ((Kd.C_below HR0.out HB.out))); (case side2 => exact HC0.out); (case side3 => exact cc_ ((Kd.C_below HR1.out HB.out))); (case side4 => exact HC1.out); rintro e w55 ⟨v452, rfl, ho0, hb⟩; refine ⟨_, rfl, ?_⟩; have n0_ := Aside0.mk (Kd.R_lower ho0 (below_size (bb_ HB))); have n1_ := Aside0.mk (below_step (bb_ HB) hb); clear HB; have HO453 := n0_; have HB := n1_; clear n0_ n1_; (try clear hb); (try clear hb2); (try clear hk); (try clear hi); (try clear ho0)) | ((with_reducible refine gate_callee (f := 13) rfl ?_); refine gl_ (some 48) Try.func13 #[.slice A0 l0.length c0, .slice A1 l1.length c1, .int .i64 a3] ?_; (with_reducible refine (leak_Explain.calls _ _ l0 _ _ l1 a3 t454 false t456 _ ?side1 ?side2 ?side3 ?side4 A16.out).mono ?_); (case side1 => exact cc_ ((Kd.C_below HR0.out HB.out))); (case side2 => exact HC0.out); (case side3 => exact cc_ ((Kd.C_below HR1.out HB.out))); (case side4 => exact HC1.out); rintro e w56 ⟨v457, rfl, ho0, hb⟩; refine ⟨_, rfl, ?_⟩; have n0_ := Aside0.mk (Kd.R_elder' (rr_ HO453) (Kd.R_base ho0) hb); have n1_ := Aside0.mk (Kd.R_lower (Kd.R_new' ho0 (Kd.R_lt (rr_ HO453))) (below_size (bb_ HB))); have n2_ := Aside0.mk (below_step (bb_ HB) hb); clear HO453; clear HB; have HO453 := n0_; have HO458 := n1_; have HB := n2_; clear n0_ n1_ n2_; (try clear hb); (try clear hb2); (try clear hk); (try clear hi); (try clear ho0)) | ((with_reducible refine gate_callee (f := 16) rfl ?_); refine gl_ (some 56) Try.func16 #[.slice A0 l0.length c0, .slice A1 l1.length c1, .int .i64 a2] ?_; (with_reducible refine (leak_Sure.calls _ _ l0 _ _ l1 a2 t459 t460 _ ?side1 ?side2 ?side3 ?side4 A17.out).mono ?_); (case side1 => exact cc_ ((Kd.C_below HR0.out HB.out))); (case side2 => exact HC0.out); (case side3 => exact cc_ ((Kd.C_below HR1.out HB.out))); (case side4 => exact HC1.out); rintro e w57 ⟨v461, rfl, ho0, hb⟩; refine ⟨_, rfl, ?_⟩; have n0_ := Aside0.mk (Kd.R_elder' (rr_ HO453) (Kd.R_base ho0) hb); have n1_ := Aside0.mk (Kd.R_elder' (rr_ HO458) (Kd.R_base ho0) hb); have n2_ := Aside0.mk (Kd.R_lower (Kd.R_new' (Kd.R_new' ho0 (Kd.R_lt (rr_ HO453))) (Kd.R_lt (rr_ HO458))) (below_size (bb_ HB))); have n3_ := Aside0.mk (below_step (bb_ HB) hb); clear HO453; clear HO458; clear HB; have HO453 := n0_; have HO458 := n1_; have HO462 := n2_; have HB := n3_; clear n0_ n1_ n2_ n3_; (try clear hb); (try clear hb2); (try clear hk); (try clear hi); (try clear ho0)) | ((with_reducible refine gate_callee (f := 16) rfl ?_); refine gl_ (some 63) Try.func16 #[.slice A0 l0.length c0, .slice A1 l1.length c1, .int .i64 a3] ?_; (with_reducible refine (leak_Sure.calls _ _ l0 _ _ l1 a3 t463 t464 _ ?side1 ?side2 ?side3 ?side4 A18.out).mono ?_); (case side1 => exact cc_ ((Kd.C_below HR0.out HB.out))); (case side2 => exact HC0.out); (case side3 => exact cc_ ((Kd.C_below HR1.out HB.out))); (case side4 => exact HC1.out); rintro e w58 ⟨v465, rfl, ho0, hb⟩; refine ⟨_, rfl, ?_⟩; have n0_ := Aside0.mk (Kd.R_elder' (rr_ HO453) (Kd.R_base ho0) hb); have n1_ := Aside0.mk (Kd.R_elder' (rr_ HO458) (Kd.R_base ho0) hb); have n2_ := Aside0.mk (Kd.R_elder' (rr_ HO462) (Kd.R_base ho0) hb); have n3_ := Aside0.mk (Kd.R_lower (Kd.R_new' (Kd.R_new' (Kd.R_new' ho0 (Kd.R_lt (rr_ HO453))) (Kd.R_lt (rr_ HO458))) (Kd.R_lt (rr_ HO462))) (below_size (bb_ HB))); have n4_ := Aside0.mk (below_step (bb_ HB) hb); clear HO453; clear HO458; clear HO462; clear HB; have HO453 := n0_; have HO458 := n1_; have HO462 := n2_; have HO466 := n3_; have HB := n4_; clear n0_ n1_ n2_ n3_ n4_; (try clear hb); (try clear hb2); (try clear hk); (try clear hi); (try clear ho0)))
         go_ret
         exact ⟨ew_, by repeat (first | (with_reducible first | exact HB.out | apply below_alloc | apply pw_below_drewN | apply below_drew1) | exact HB.out)⟩
       ·rw [if_neg c22] at H
        have c22b0 : (t456 == 0) = false := beq_eq_false_iff_ne.mpr c22
        have c22b1 : (t456 != 0) = true := bne_iff_ne.mpr c22
        obtain rfl := Option.some.inj H
        go_wp2_with (first | ((with_reducible refine gate_callee (f := 13) rfl ?_); refine gl_ (some 40) Try.func13 #[.slice A0 l0.length c0, .slice A1 l1.length c1, .int .i64 a2] ?_; (with_reducible refine (leak_Explain.calls _ _ l0 _ _ l1 a2 t449 true t451 _ ?side1 ?side2 ?side3 ?side4 A15.out).mono ?_); (case side1 => exact cc_ ((Kd.C_below HR0.out HB.out))); (case side2 => exact HC0.out); (case side3 => exact cc_ ((Kd.C_below HR1.out HB.out))); (case side4 => exact HC1.out); rintro e w59 ⟨v452, rfl, ho0, hb⟩; refine ⟨_, rfl, ?_⟩; have n0_ := Aside0.mk (Kd.R_lower ho0 (below_size (bb_ HB))); have n1_ := Aside0.mk (below_step (bb_ HB) hb); clear HB; have HO453 := n0_; have HB := n1_; clear n0_ n1_; (try clear hb); (try clear hb2); (try clear hk); (try clear hi); (try clear ho0)) | ((with_reducible refine gate_callee (f := 13) rfl ?_); refine gl_ (some 48) Try.func13 #[.slice A0 l0.length c0, .slice A1 l1.length c1, .int .i64 a3] ?_; (with_reducible refine (leak_Explain.calls _ _ l0 _ _ l1 a3 t454 t455 t456 _ ?side1 ?side2 ?side3 ?side4 A16.out).mono ?_); (case side1 => exact cc_ ((Kd.C_below HR0.out HB.out))); (case side2 => exact HC0.out); (case side3 => exact cc_ ((Kd.C_below HR1.out HB.out))); (case side4 => exact HC1.out); rintro e w60 ⟨v457, rfl, ho0, hb⟩; refine ⟨_, rfl, ?_⟩; have n0_ := Aside0.mk (Kd.R_elder' (rr_ HO453) (Kd.R_base ho0) hb); have n1_ := Aside0.mk (Kd.R_lower (Kd.R_new' ho0 (Kd.R_lt (rr_ HO453))) (below_size (bb_ HB))); have n2_ := Aside0.mk (below_step (bb_ HB) hb); clear HO453; clear HB; have HO453 := n0_; have HO458 := n1_; have HB := n2_; clear n0_ n1_ n2_; (try clear hb); (try clear hb2); (try clear hk); (try clear hi); (try clear ho0)) | ((with_reducible refine gate_callee (f := 16) rfl ?_); refine gl_ (some 56) Try.func16 #[.slice A0 l0.length c0, .slice A1 l1.length c1, .int .i64 a2] ?_; (with_reducible refine (leak_Sure.calls _ _ l0 _ _ l1 a2 t459 t460 _ ?side1 ?side2 ?side3 ?side4 A17.out).mono ?_); (case side1 => exact cc_ ((Kd.C_below HR0.out HB.out))); (case side2 => exact HC0.out); (case side3 => exact cc_ ((Kd.C_below HR1.out HB.out))); (case side4 => exact HC1.out); rintro e w61 ⟨v461, rfl, ho0, hb⟩; refine ⟨_, rfl, ?_⟩; have n0_ := Aside0.mk (Kd.R_elder' (rr_ HO453) (Kd.R_base ho0) hb); have n1_ := Aside0.mk (Kd.R_elder' (rr_ HO458) (Kd.R_base ho0) hb); have n2_ := Aside0.mk (Kd.R_lower (Kd.R_new' (Kd.R_new' ho0 (Kd.R_lt (rr_ HO453))) (Kd.R_lt (rr_ HO458))) (below_size (bb_ HB))); have n3_ := Aside0.mk (below_step (bb_ HB) hb); clear HO453; clear HO458; clear HB; have HO453 := n0_; have HO458 := n1_; have HO462 := n2_; have HB := n3_; clear n0_ n1_ n2_ n3_; (try clear hb); (try clear hb2); (try clear hk); (try clear hi); (try clear ho0)) | ((with_reducible refine gate_callee (f := 16) rfl ?_); refine gl_ (some 63) Try.func16 #[.slice A0 l0.length c0, .slice A1 l1.length c1, .int .i64 a3] ?_; (with_reducible refine (leak_Sure.calls _ _ l0 _ _ l1 a3 t463 t464 _ ?side1 ?side2 ?side3 ?side4 A18.out).mono ?_); (case side1 => exact cc_ ((Kd.C_below HR0.out HB.out))); (case side2 => exact HC0.out); (case side3 => exact cc_ ((Kd.C_below HR1.out HB.out))); (case side4 => exact HC1.out); rintro e w62 ⟨v465, rfl, ho0, hb⟩; refine ⟨_, rfl, ?_⟩; have n0_ := Aside0.mk (Kd.R_elder' (rr_ HO453) (Kd.R_base ho0) hb); have n1_ := Aside0.mk (Kd.R_elder' (rr_ HO458) (Kd.R_base ho0) hb); have n2_ := Aside0.mk (Kd.R_elder' (rr_ HO462) (Kd.R_base ho0) hb); have n3_ := Aside0.mk (Kd.R_lower (Kd.R_new' (Kd.R_new' (Kd.R_new' ho0 (Kd.R_lt (rr_ HO453))) (Kd.R_lt (rr_ HO458))) (Kd.R_lt (rr_ HO462))) (below_size (bb_ HB))); have n4_ := Aside0.mk (below_step (bb_ HB) hb); clear HO453; clear HO458; clear HO462; clear HB; have HO453 := n0_; have HO458 := n1_; have HO462 := n2_; have HO466 := n3_; have HB := n4_; clear n0_ n1_ n2_ n3_ n4_; (try clear hb); (try clear hb2); (try clear hk); (try clear hi); (try clear ho0)))
        go_ret
        exact ⟨ew_, by repeat (first | (with_reducible first | exact HB.out | apply below_alloc | apply pw_below_drewN | apply below_drew1) | exact HB.out)⟩
      ·rw [if_neg c21] at H
       have c21b0 : (t451 == 0) = false := beq_eq_false_iff_ne.mpr c21
       have c21b1 : (t451 != 0) = true := bne_iff_ne.mpr c21
       obtain rfl := Option.some.inj H
       go_wp2_with (first | ((with_reducible refine gate_callee (f := 13) rfl ?_); refine gl_ (some 40) Try.func13 #[.slice A0 l0.length c0, .slice A1 l1.length c1, .int .i64 a2] ?_; (with_reducible refine (leak_Explain.calls _ _ l0 _ _ l1 a2 t449 true t451 _ ?side1 ?side2 ?side3 ?side4 A15.out).mono ?_); (case side1 => exact cc_ ((Kd.C_below HR0.out HB.out))); (case side2 => exact HC0.out); (case side3 => exact cc_ ((Kd.C_below HR1.out HB.out))); (case side4 => exact HC1.out); rintro e w63 ⟨v452, rfl, ho0, hb⟩; refine ⟨_, rfl, ?_⟩; have n0_ := Aside0.mk (Kd.R_lower ho0 (below_size (bb_ HB))); have n1_ := Aside0.mk (below_step (bb_ HB) hb); clear HB; have HO453 := n0_; have HB := n1_; clear n0_ n1_; (try clear hb); (try clear hb2); (try clear hk); (try clear hi); (try clear ho0)) | ((with_reducible refine gate_callee (f := 13) rfl ?_); refine gl_ (some 48) Try.func13 #[.slice A0 l0.length c0, .slice A1 l1.length c1, .int .i64 a3] ?_; (with_reducible refine (leak_Explain.calls _ _ l0 _ _ l1 a3 t454 t455 t456 _ ?side1 ?side2 ?side3 ?side4 A16.out).mono ?_); (case side1 => exact cc_ ((Kd.C_below HR0.out HB.out))); (case side2 => exact HC0.out); (case side3 => exact cc_ ((Kd.C_below HR1.out HB.out))); (case side4 => exact HC1.out); rintro e w64 ⟨v457, rfl, ho0, hb⟩; refine ⟨_, rfl, ?_⟩; have n0_ := Aside0.mk (Kd.R_elder' (rr_ HO453) (Kd.R_base ho0) hb); have n1_ := Aside0.mk (Kd.R_lower (Kd.R_new' ho0 (Kd.R_lt (rr_ HO453))) (below_size (bb_ HB))); have n2_ := Aside0.mk (below_step (bb_ HB) hb); clear HO453; clear HB; have HO453 := n0_; have HO458 := n1_; have HB := n2_; clear n0_ n1_ n2_; (try clear hb); (try clear hb2); (try clear hk); (try clear hi); (try clear ho0)) | ((with_reducible refine gate_callee (f := 16) rfl ?_); refine gl_ (some 56) Try.func16 #[.slice A0 l0.length c0, .slice A1 l1.length c1, .int .i64 a2] ?_; (with_reducible refine (leak_Sure.calls _ _ l0 _ _ l1 a2 t459 t460 _ ?side1 ?side2 ?side3 ?side4 A17.out).mono ?_); (case side1 => exact cc_ ((Kd.C_below HR0.out HB.out))); (case side2 => exact HC0.out); (case side3 => exact cc_ ((Kd.C_below HR1.out HB.out))); (case side4 => exact HC1.out); rintro e w65 ⟨v461, rfl, ho0, hb⟩; refine ⟨_, rfl, ?_⟩; have n0_ := Aside0.mk (Kd.R_elder' (rr_ HO453) (Kd.R_base ho0) hb); have n1_ := Aside0.mk (Kd.R_elder' (rr_ HO458) (Kd.R_base ho0) hb); have n2_ := Aside0.mk (Kd.R_lower (Kd.R_new' (Kd.R_new' ho0 (Kd.R_lt (rr_ HO453))) (Kd.R_lt (rr_ HO458))) (below_size (bb_ HB))); have n3_ := Aside0.mk (below_step (bb_ HB) hb); clear HO453; clear HO458; clear HB; have HO453 := n0_; have HO458 := n1_; have HO462 := n2_; have HB := n3_; clear n0_ n1_ n2_ n3_; (try clear hb); (try clear hb2); (try clear hk); (try clear hi); (try clear ho0)) | ((with_reducible refine gate_callee (f := 16) rfl ?_); refine gl_ (some 63) Try.func16 #[.slice A0 l0.length c0, .slice A1 l1.length c1, .int .i64 a3] ?_; (with_reducible refine (leak_Sure.calls _ _ l0 _ _ l1 a3 t463 t464 _ ?side1 ?side2 ?side3 ?side4 A18.out).mono ?_); (case side1 => exact cc_ ((Kd.C_below HR0.out HB.out))); (case side2 => exact HC0.out); (case side3 => exact cc_ ((Kd.C_below HR1.out HB.out))); (case side4 => exact HC1.out); rintro e w66 ⟨v465, rfl, ho0, hb⟩; refine ⟨_, rfl, ?_⟩; have n0_ := Aside0.mk (Kd.R_elder' (rr_ HO453) (Kd.R_base ho0) hb); have n1_ := Aside0.mk (Kd.R_elder' (rr_ HO458) (Kd.R_base ho0) hb); have n2_ := Aside0.mk (Kd.R_elder' (rr_ HO462) (Kd.R_base ho0) hb); have n3_ := Aside0.mk (Kd.R_lower (Kd.R_new' (Kd.R_new' (Kd.R_new' ho0 (Kd.R_lt (rr_ HO453))) (Kd.R_lt (rr_ HO458))) (Kd.R_lt (rr_ HO462))) (below_size (bb_ HB))); have n4_ := Aside0.mk (below_step (bb_ HB) hb); clear HO453; clear HO458; clear HO462; clear HB; have HO453 := n0_; have HO458 := n1_; have HO462 := n2_; have HO466 := n3_; have HB := n4_; clear n0_ n1_ n2_ n3_ n4_; (try clear hb); (try clear hb2); (try clear hk); (try clear hi); (try clear ho0)))
       go_ret
       exact ⟨ew_, by repeat (first | (with_reducible first | exact HB.out | apply below_alloc | apply pw_below_drewN | apply below_drew1) | exact HB.out)⟩
     ·replace c20 := Bool.eq_false_iff.mpr c20
      subst c20
      have H1 : (some false) = some r := by rw [if_neg (show ¬ (false = true) by decide)] at H; exact H
      clear H
      have H := H1
      clear H1
      obtain rfl := Option.some.inj H
      go_wp2_with (first | ((with_reducible refine gate_callee (f := 13) rfl ?_); refine gl_ (some 40) Try.func13 #[.slice A0 l0.length c0, .slice A1 l1.length c1, .int .i64 a2] ?_; (with_reducible refine (leak_Explain.calls _ _ l0 _ _ l1 a2 t449 true t451 _ ?side1 ?side2 ?side3 ?side4 A15.out).mono ?_); (case side1 => exact cc_ ((Kd.C_below HR0.out HB.out))); (case side2 => exact HC0.out); (case side3 => exact cc_ ((Kd.C_below HR1.out HB.out))); (case side4 => exact HC1.out); rintro e w67 ⟨v452, rfl, ho0, hb⟩; refine ⟨_, rfl, ?_⟩; have n0_ := Aside0.mk (Kd.R_lower ho0 (below_size (bb_ HB))); have n1_ := Aside0.mk (below_step (bb_ HB) hb); clear HB; have HO453 := n0_; have HB := n1_; clear n0_ n1_; (try clear hb); (try clear hb2); (try clear hk); (try clear hi); (try clear ho0)) | ((with_reducible refine gate_callee (f := 13) rfl ?_); refine gl_ (some 48) Try.func13 #[.slice A0 l0.length c0, .slice A1 l1.length c1, .int .i64 a3] ?_; (with_reducible refine (leak_Explain.calls _ _ l0 _ _ l1 a3 t454 t455 t456 _ ?side1 ?side2 ?side3 ?side4 A16.out).mono ?_); (case side1 => exact cc_ ((Kd.C_below HR0.out HB.out))); (case side2 => exact HC0.out); (case side3 => exact cc_ ((Kd.C_below HR1.out HB.out))); (case side4 => exact HC1.out); rintro e w68 ⟨v457, rfl, ho0, hb⟩; refine ⟨_, rfl, ?_⟩; have n0_ := Aside0.mk (Kd.R_elder' (rr_ HO453) (Kd.R_base ho0) hb); have n1_ := Aside0.mk (Kd.R_lower (Kd.R_new' ho0 (Kd.R_lt (rr_ HO453))) (below_size (bb_ HB))); have n2_ := Aside0.mk (below_step (bb_ HB) hb); clear HO453; clear HB; have HO453 := n0_; have HO458 := n1_; have HB := n2_; clear n0_ n1_ n2_; (try clear hb); (try clear hb2); (try clear hk); (try clear hi); (try clear ho0)) | ((with_reducible refine gate_callee (f := 16) rfl ?_); refine gl_ (some 56) Try.func16 #[.slice A0 l0.length c0, .slice A1 l1.length c1, .int .i64 a2] ?_; (with_reducible refine (leak_Sure.calls _ _ l0 _ _ l1 a2 t459 t460 _ ?side1 ?side2 ?side3 ?side4 A17.out).mono ?_); (case side1 => exact cc_ ((Kd.C_below HR0.out HB.out))); (case side2 => exact HC0.out); (case side3 => exact cc_ ((Kd.C_below HR1.out HB.out))); (case side4 => exact HC1.out); rintro e w69 ⟨v461, rfl, ho0, hb⟩; refine ⟨_, rfl, ?_⟩; have n0_ := Aside0.mk (Kd.R_elder' (rr_ HO453) (Kd.R_base ho0) hb); have n1_ := Aside0.mk (Kd.R_elder' (rr_ HO458) (Kd.R_base ho0) hb); have n2_ := Aside0.mk (Kd.R_lower (Kd.R_new' (Kd.R_new' ho0 (Kd.R_lt (rr_ HO453))) (Kd.R_lt (rr_ HO458))) (below_size (bb_ HB))); have n3_ := Aside0.mk (below_step (bb_ HB) hb); clear HO453; clear HO458; clear HB; have HO453 := n0_; have HO458 := n1_; have HO462 := n2_; have HB := n3_; clear n0_ n1_ n2_ n3_; (try clear hb); (try clear hb2); (try clear hk); (try clear hi); (try clear ho0)) | ((with_reducible refine gate_callee (f := 16) rfl ?_); refine gl_ (some 63) Try.func16 #[.slice A0 l0.length c0, .slice A1 l1.length c1, .int .i64 a3] ?_; (with_reducible refine (leak_Sure.calls _ _ l0 _ _ l1 a3 t463 t464 _ ?side1 ?side2 ?side3 ?side4 A18.out).mono ?_); (case side1 => exact cc_ ((Kd.C_below HR0.out HB.out))); (case side2 => exact HC0.out); (case side3 => exact cc_ ((Kd.C_below HR1.out HB.out))); (case side4 => exact HC1.out); rintro e w70 ⟨v465, rfl, ho0, hb⟩; refine ⟨_, rfl, ?_⟩; have n0_ := Aside0.mk (Kd.R_elder' (rr_ HO453) (Kd.R_base ho0) hb); have n1_ := Aside0.mk (Kd.R_elder' (rr_ HO458) (Kd.R_base ho0) hb); have n2_ := Aside0.mk (Kd.R_elder' (rr_ HO462) (Kd.R_base ho0) hb); have n3_ := Aside0.mk (Kd.R_lower (Kd.R_new' (Kd.R_new' (Kd.R_new' ho0 (Kd.R_lt (rr_ HO453))) (Kd.R_lt (rr_ HO458))) (Kd.R_lt (rr_ HO462))) (below_size (bb_ HB))); have n4_ := Aside0.mk (below_step (bb_ HB) hb); clear HO453; clear HO458; clear HO462; clear HB; have HO453 := n0_; have HO458 := n1_; have HO462 := n2_; have HO466 := n3_; have HB := n4_; clear n0_ n1_ n2_ n3_ n4_; (try clear hb); (try clear hb2); (try clear hk); (try clear hi); (try clear ho0)))
      go_ret
      exact ⟨ew_, by repeat (first | (with_reducible first | exact HB.out | apply below_alloc | apply pw_below_drewN | apply below_drew1) | exact HB.out)⟩
    ·replace c19 := Bool.eq_false_iff.mpr c19
     subst c19
     have H1 : (if t447 = true then (if t451 = 0 then (if t456 = 0 then (if t460 = 4 then (if t455 = true then (some (decide ((t454.length : Int) > a2))) else (some true)) else (some false)) else (some false)) else (some false)) else (some false)) = some r := by rw [if_neg (show ¬ (false = true) by decide)] at H; exact H
     clear H
     have H := H1
     clear H1
     by_cases c71 : t447 = true
     ·subst c71
      have H1 : (if t451 = 0 then (if t456 = 0 then (if t460 = 4 then (if t455 = true then (some (decide ((t454.length : Int) > a2))) else (some true)) else (some false)) else (some false)) else (some false)) = some r := by rw [if_pos rfl] at H; exact H
      clear H
      have H := H1
      clear H1
      by_cases c72 : t451 = 0
      ·rw [if_pos c72] at H
       have c72b0 : (t451 == 0) = true := beq_iff_eq.mpr c72
       have c72b1 : (t451 != 0) = false := bne_eq_false_iff_eq.mpr c72
       clear c72
       by_cases c73 : t456 = 0
       ·rw [if_pos c73] at H
        have c73b0 : (t456 == 0) = true := beq_iff_eq.mpr c73
        have c73b1 : (t456 != 0) = false := bne_eq_false_iff_eq.mpr c73
        clear c73
        by_cases c74 : t460 = 4
        ·rw [if_pos c74] at H
         have c74b0 : (t460 == 4) = true := beq_iff_eq.mpr c74
         have c74b1 : (t460 != 4) = false := bne_eq_false_iff_eq.mpr c74
         clear c74
         by_cases c75 : t455 = true
         ·subst c75
          have H1 : (some (decide ((t454.length : Int) > a2))) = some r := by rw [if_pos rfl] at H; exact H
          clear H
          have H := H1
          clear H1
          obtain rfl := Option.some.inj H
          go_wp2_with (first | ((with_reducible refine gate_callee (f := 13) rfl ?_); refine gl_ (some 40) Try.func13 #[.slice A0 l0.length c0, .slice A1 l1.length c1, .int .i64 a2] ?_; (with_reducible refine (leak_Explain.calls _ _ l0 _ _ l1 a2 t449 false t451 _ ?side1 ?side2 ?side3 ?side4 A15.out).mono ?_); (case side1 => exact cc_ ((Kd.C_below HR0.out HB.out))); (case side2 => exact HC0.out); (case side3 => exact cc_ ((Kd.C_below HR1.out HB.out))); (case side4 => exact HC1.out); rintro e w76 ⟨v452, rfl, ho0, hb⟩; refine ⟨_, rfl, ?_⟩; have n0_ := Aside0.mk (Kd.R_lower ho0 (below_size (bb_ HB))); have n1_ := Aside0.mk (below_step (bb_ HB) hb); clear HB; have HO453 := n0_; have HB := n1_; clear n0_ n1_; (try clear hb); (try clear hb2); (try clear hk); (try clear hi); (try clear ho0)) | ((with_reducible refine gate_callee (f := 13) rfl ?_); refine gl_ (some 48) Try.func13 #[.slice A0 l0.length c0, .slice A1 l1.length c1, .int .i64 a3] ?_; (with_reducible refine (leak_Explain.calls _ _ l0 _ _ l1 a3 t454 true t456 _ ?side1 ?side2 ?side3 ?side4 A16.out).mono ?_); (case side1 => exact cc_ ((Kd.C_below HR0.out HB.out))); (case side2 => exact HC0.out); (case side3 => exact cc_ ((Kd.C_below HR1.out HB.out))); (case side4 => exact HC1.out); rintro e w77 ⟨v457, rfl, ho0, hb⟩; refine ⟨_, rfl, ?_⟩; have n0_ := Aside0.mk (Kd.R_elder' (rr_ HO453) (Kd.R_base ho0) hb); have n1_ := Aside0.mk (Kd.R_lower (Kd.R_new' ho0 (Kd.R_lt (rr_ HO453))) (below_size (bb_ HB))); have n2_ := Aside0.mk (below_step (bb_ HB) hb); clear HO453; clear HB; have HO453 := n0_; have HO458 := n1_; have HB := n2_; clear n0_ n1_ n2_; (try clear hb); (try clear hb2); (try clear hk); (try clear hi); (try clear ho0)) | ((with_reducible refine gate_callee (f := 16) rfl ?_); refine gl_ (some 56) Try.func16 #[.slice A0 l0.length c0, .slice A1 l1.length c1, .int .i64 a2] ?_; (with_reducible refine (leak_Sure.calls _ _ l0 _ _ l1 a2 t459 t460 _ ?side1 ?side2 ?side3 ?side4 A17.out).mono ?_); (case side1 => exact cc_ ((Kd.C_below HR0.out HB.out))); (case side2 => exact HC0.out); (case side3 => exact cc_ ((Kd.C_below HR1.out HB.out))); (case side4 => exact HC1.out); rintro e w78 ⟨v461, rfl, ho0, hb⟩; refine ⟨_, rfl, ?_⟩; have n0_ := Aside0.mk (Kd.R_elder' (rr_ HO453) (Kd.R_base ho0) hb); have n1_ := Aside0.mk (Kd.R_elder' (rr_ HO458) (Kd.R_base ho0) hb); have n2_ := Aside0.mk (Kd.R_lower (Kd.R_new' (Kd.R_new' ho0 (Kd.R_lt (rr_ HO453))) (Kd.R_lt (rr_ HO458))) (below_size (bb_ HB))); have n3_ := Aside0.mk (below_step (bb_ HB) hb); clear HO453; clear HO458; clear HB; have HO453 := n0_; have HO458 := n1_; have HO462 := n2_; have HB := n3_; clear n0_ n1_ n2_ n3_; (try clear hb); (try clear hb2); (try clear hk); (try clear hi); (try clear ho0)) | ((with_reducible refine gate_callee (f := 16) rfl ?_); refine gl_ (some 63) Try.func16 #[.slice A0 l0.length c0, .slice A1 l1.length c1, .int .i64 a3] ?_; (with_reducible refine (leak_Sure.calls _ _ l0 _ _ l1 a3 t463 t464 _ ?side1 ?side2 ?side3 ?side4 A18.out).mono ?_); (case side1 => exact cc_ ((Kd.C_below HR0.out HB.out))); (case side2 => exact HC0.out); (case side3 => exact cc_ ((Kd.C_below HR1.out HB.out))); (case side4 => exact HC1.out); rintro e w79 ⟨v465, rfl, ho0, hb⟩; refine ⟨_, rfl, ?_⟩; have n0_ := Aside0.mk (Kd.R_elder' (rr_ HO453) (Kd.R_base ho0) hb); have n1_ := Aside0.mk (Kd.R_elder' (rr_ HO458) (Kd.R_base ho0) hb); have n2_ := Aside0.mk (Kd.R_elder' (rr_ HO462) (Kd.R_base ho0) hb); have n3_ := Aside0.mk (Kd.R_lower (Kd.R_new' (Kd.R_new' (Kd.R_new' ho0 (Kd.R_lt (rr_ HO453))) (Kd.R_lt (rr_ HO458))) (Kd.R_lt (rr_ HO462))) (below_size (bb_ HB))); have n4_ := Aside0.mk (below_step (bb_ HB) hb); clear HO453; clear HO458; clear HO462; clear HB; have HO453 := n0_; have HO458 := n1_; have HO462 := n2_; have HO466 := n3_; have HB := n4_; clear n0_ n1_ n2_ n3_ n4_; (try clear hb); (try clear hb2); (try clear hk); (try clear hi); (try clear ho0); obtain ⟨Ao80, co80, eo80⟩ := Kd.R_slice HO458.out; subst eo80))
          go_ret
          exact ⟨ew_, by repeat (first | (with_reducible first | exact HB.out | apply below_alloc | apply pw_below_drewN | apply below_drew1) | exact HB.out)⟩
         ·replace c75 := Bool.eq_false_iff.mpr c75
          subst c75
          have H1 : (some true) = some r := by rw [if_neg (show ¬ (false = true) by decide)] at H; exact H
          clear H
          have H := H1
          clear H1
          obtain rfl := Option.some.inj H
          go_wp2_with (first | ((with_reducible refine gate_callee (f := 13) rfl ?_); refine gl_ (some 40) Try.func13 #[.slice A0 l0.length c0, .slice A1 l1.length c1, .int .i64 a2] ?_; (with_reducible refine (leak_Explain.calls _ _ l0 _ _ l1 a2 t449 false t451 _ ?side1 ?side2 ?side3 ?side4 A15.out).mono ?_); (case side1 => exact cc_ ((Kd.C_below HR0.out HB.out))); (case side2 => exact HC0.out); (case side3 => exact cc_ ((Kd.C_below HR1.out HB.out))); (case side4 => exact HC1.out); rintro e w81 ⟨v452, rfl, ho0, hb⟩; refine ⟨_, rfl, ?_⟩; have n0_ := Aside0.mk (Kd.R_lower ho0 (below_size (bb_ HB))); have n1_ := Aside0.mk (below_step (bb_ HB) hb); clear HB; have HO453 := n0_; have HB := n1_; clear n0_ n1_; (try clear hb); (try clear hb2); (try clear hk); (try clear hi); (try clear ho0)) | ((with_reducible refine gate_callee (f := 13) rfl ?_); refine gl_ (some 48) Try.func13 #[.slice A0 l0.length c0, .slice A1 l1.length c1, .int .i64 a3] ?_; (with_reducible refine (leak_Explain.calls _ _ l0 _ _ l1 a3 t454 false t456 _ ?side1 ?side2 ?side3 ?side4 A16.out).mono ?_); (case side1 => exact cc_ ((Kd.C_below HR0.out HB.out))); (case side2 => exact HC0.out); (case side3 => exact cc_ ((Kd.C_below HR1.out HB.out))); (case side4 => exact HC1.out); rintro e w82 ⟨v457, rfl, ho0, hb⟩; refine ⟨_, rfl, ?_⟩; have n0_ := Aside0.mk (Kd.R_elder' (rr_ HO453) (Kd.R_base ho0) hb); have n1_ := Aside0.mk (Kd.R_lower (Kd.R_new' ho0 (Kd.R_lt (rr_ HO453))) (below_size (bb_ HB))); have n2_ := Aside0.mk (below_step (bb_ HB) hb); clear HO453; clear HB; have HO453 := n0_; have HO458 := n1_; have HB := n2_; clear n0_ n1_ n2_; (try clear hb); (try clear hb2); (try clear hk); (try clear hi); (try clear ho0)) | ((with_reducible refine gate_callee (f := 16) rfl ?_); refine gl_ (some 56) Try.func16 #[.slice A0 l0.length c0, .slice A1 l1.length c1, .int .i64 a2] ?_; (with_reducible refine (leak_Sure.calls _ _ l0 _ _ l1 a2 t459 t460 _ ?side1 ?side2 ?side3 ?side4 A17.out).mono ?_); (case side1 => exact cc_ ((Kd.C_below HR0.out HB.out))); (case side2 => exact HC0.out); (case side3 => exact cc_ ((Kd.C_below HR1.out HB.out))); (case side4 => exact HC1.out); rintro e w83 ⟨v461, rfl, ho0, hb⟩; refine ⟨_, rfl, ?_⟩; have n0_ := Aside0.mk (Kd.R_elder' (rr_ HO453) (Kd.R_base ho0) hb); have n1_ := Aside0.mk (Kd.R_elder' (rr_ HO458) (Kd.R_base ho0) hb); have n2_ := Aside0.mk (Kd.R_lower (Kd.R_new' (Kd.R_new' ho0 (Kd.R_lt (rr_ HO453))) (Kd.R_lt (rr_ HO458))) (below_size (bb_ HB))); have n3_ := Aside0.mk (below_step (bb_ HB) hb); clear HO453; clear HO458; clear HB; have HO453 := n0_; have HO458 := n1_; have HO462 := n2_; have HB := n3_; clear n0_ n1_ n2_ n3_; (try clear hb); (try clear hb2); (try clear hk); (try clear hi); (try clear ho0)) | ((with_reducible refine gate_callee (f := 16) rfl ?_); refine gl_ (some 63) Try.func16 #[.slice A0 l0.length c0, .slice A1 l1.length c1, .int .i64 a3] ?_; (with_reducible refine (leak_Sure.calls _ _ l0 _ _ l1 a3 t463 t464 _ ?side1 ?side2 ?side3 ?side4 A18.out).mono ?_); (case side1 => exact cc_ ((Kd.C_below HR0.out HB.out))); (case side2 => exact HC0.out); (case side3 => exact cc_ ((Kd.C_below HR1.out HB.out))); (case side4 => exact HC1.out); rintro e w84 ⟨v465, rfl, ho0, hb⟩; refine ⟨_, rfl, ?_⟩; have n0_ := Aside0.mk (Kd.R_elder' (rr_ HO453) (Kd.R_base ho0) hb); have n1_ := Aside0.mk (Kd.R_elder' (rr_ HO458) (Kd.R_base ho0) hb); have n2_ := Aside0.mk (Kd.R_elder' (rr_ HO462) (Kd.R_base ho0) hb); have n3_ := Aside0.mk (Kd.R_lower (Kd.R_new' (Kd.R_new' (Kd.R_new' ho0 (Kd.R_lt (rr_ HO453))) (Kd.R_lt (rr_ HO458))) (Kd.R_lt (rr_ HO462))) (below_size (bb_ HB))); have n4_ := Aside0.mk (below_step (bb_ HB) hb); clear HO453; clear HO458; clear HO462; clear HB; have HO453 := n0_; have HO458 := n1_; have HO462 := n2_; have HO466 := n3_; have HB := n4_; clear n0_ n1_ n2_ n3_ n4_; (try clear hb); (try clear hb2); (try clear hk); (try clear hi); (try clear ho0)))
          go_ret
          exact ⟨ew_, by repeat (first | (with_reducible first | exact HB.out | apply below_alloc | apply pw_below_drewN | apply below_drew1) | exact HB.out)⟩
        ·rw [if_neg c74] at H
         have c74b0 : (t460 == 4) = false := beq_eq_false_iff_ne.mpr c74
         have c74b1 : (t460 != 4) = true := bne_iff_ne.mpr c74
         obtain rfl := Option.some.inj H
         go_wp2_with (first | ((with_reducible refine gate_callee (f := 13) rfl ?_); refine gl_ (some 40) Try.func13 #[.slice A0 l0.length c0, .slice A1 l1.length c1, .int .i64 a2] ?_; (with_reducible refine (leak_Explain.calls _ _ l0 _ _ l1 a2 t449 false t451 _ ?side1 ?side2 ?side3 ?side4 A15.out).mono ?_); (case side1 => exact cc_ ((Kd.C_below HR0.out HB.out))); (case side2 => exact HC0.out); (case side3 => exact cc_ ((Kd.C_below HR1.out HB.out))); (case side4 => exact HC1.out); rintro e w85 ⟨v452, rfl, ho0, hb⟩; refine ⟨_, rfl, ?_⟩; have n0_ := Aside0.mk (Kd.R_lower ho0 (below_size (bb_ HB))); have n1_ := Aside0.mk (below_step (bb_ HB) hb); clear HB; have HO453 := n0_; have HB := n1_; clear n0_ n1_; (try clear hb); (try clear hb2); (try clear hk); (try clear hi); (try clear ho0)) | ((with_reducible refine gate_callee (f := 13) rfl ?_); refine gl_ (some 48) Try.func13 #[.slice A0 l0.length c0, .slice A1 l1.length c1, .int .i64 a3] ?_; (with_reducible refine (leak_Explain.calls _ _ l0 _ _ l1 a3 t454 t455 t456 _ ?side1 ?side2 ?side3 ?side4 A16.out).mono ?_); (case side1 => exact cc_ ((Kd.C_below HR0.out HB.out))); (case side2 => exact HC0.out); (case side3 => exact cc_ ((Kd.C_below HR1.out HB.out))); (case side4 => exact HC1.out); rintro e w86 ⟨v457, rfl, ho0, hb⟩; refine ⟨_, rfl, ?_⟩; have n0_ := Aside0.mk (Kd.R_elder' (rr_ HO453) (Kd.R_base ho0) hb); have n1_ := Aside0.mk (Kd.R_lower (Kd.R_new' ho0 (Kd.R_lt (rr_ HO453))) (below_size (bb_ HB))); have n2_ := Aside0.mk (below_step (bb_ HB) hb); clear HO453; clear HB; have HO453 := n0_; have HO458 := n1_; have HB := n2_; clear n0_ n1_ n2_; (try clear hb); (try clear hb2); (try clear hk); (try clear hi); (try clear ho0)) | ((with_reducible refine gate_callee (f := 16) rfl ?_); refine gl_ (some 56) Try.func16 #[.slice A0 l0.length c0, .slice A1 l1.length c1, .int .i64 a2] ?_; (with_reducible refine (leak_Sure.calls _ _ l0 _ _ l1 a2 t459 t460 _ ?side1 ?side2 ?side3 ?side4 A17.out).mono ?_); (case side1 => exact cc_ ((Kd.C_below HR0.out HB.out))); (case side2 => exact HC0.out); (case side3 => exact cc_ ((Kd.C_below HR1.out HB.out))); (case side4 => exact HC1.out); rintro e w87 ⟨v461, rfl, ho0, hb⟩; refine ⟨_, rfl, ?_⟩; have n0_ := Aside0.mk (Kd.R_elder' (rr_ HO453) (Kd.R_base ho0) hb); have n1_ := Aside0.mk (Kd.R_elder' (rr_ HO458) (Kd.R_base ho0) hb); have n2_ := Aside0.mk (Kd.R_lower (Kd.R_new' (Kd.R_new' ho0 (Kd.R_lt (rr_ HO453))) (Kd.R_lt (rr_ HO458))) (below_size (bb_ HB))); have n3_ := Aside0.mk (below_step (bb_ HB) hb); clear HO453; clear HO458; clear HB; have HO453 := n0_; have HO458 := n1_; have HO462 := n2_; have HB := n3_; clear n0_ n1_ n2_ n3_; (try clear hb); (try clear hb2); (try clear hk); (try clear hi); (try clear ho0)) | ((with_reducible refine gate_callee (f := 16) rfl ?_); refine gl_ (some 63) Try.func16 #[.slice A0 l0.length c0, .slice A1 l1.length c1, .int .i64 a3] ?_; (with_reducible refine (leak_Sure.calls _ _ l0 _ _ l1 a3 t463 t464 _ ?side1 ?side2 ?side3 ?side4 A18.out).mono ?_); (case side1 => exact cc_ ((Kd.C_below HR0.out HB.out))); (case side2 => exact HC0.out); (case side3 => exact cc_ ((Kd.C_below HR1.out HB.out))); (case side4 => exact HC1.out); rintro e w88 ⟨v465, rfl, ho0, hb⟩; refine ⟨_, rfl, ?_⟩; have n0_ := Aside0.mk (Kd.R_elder' (rr_ HO453) (Kd.R_base ho0) hb); have n1_ := Aside0.mk (Kd.R_elder' (rr_ HO458) (Kd.R_base ho0) hb); have n2_ := Aside0.mk (Kd.R_elder' (rr_ HO462) (Kd.R_base ho0) hb); have n3_ := Aside0.mk (Kd.R_lower (Kd.R_new' (Kd.R_new' (Kd.R_new' ho0 (Kd.R_lt (rr_ HO453))) (Kd.R_lt (rr_ HO458))) (Kd.R_lt (rr_ HO462))) (below_size (bb_ HB))); have n4_ := Aside0.mk (below_step (bb_ HB) hb); clear HO453; clear HO458; clear HO462; clear HB; have HO453 := n0_; have HO458 := n1_; have HO462 := n2_; have HO466 := n3_; have HB := n4_; clear n0_ n1_ n2_ n3_ n4_; (try clear hb); (try clear hb2); (try clear hk); (try clear hi); (try clear ho0)))
         go_ret
         exact ⟨ew_, by repeat (first | (with_reducible first | exact HB.out | apply below_alloc | apply pw_below_drewN | apply below_drew1) | exact HB.out)⟩
       ·rw [if_neg c73] at H
        have c73b0 : (t456 == 0) = false := beq_eq_false_iff_ne.mpr c73
        have c73b1 : (t456 != 0) = true := bne_iff_ne.mpr c73
        obtain rfl := Option.some.inj H
        go_wp2_with (first | ((with_reducible refine gate_callee (f := 13) rfl ?_); refine gl_ (some 40) Try.func13 #[.slice A0 l0.length c0, .slice A1 l1.length c1, .int .i64 a2] ?_; (with_reducible refine (leak_Explain.calls _ _ l0 _ _ l1 a2 t449 false t451 _ ?side1 ?side2 ?side3 ?side4 A15.out).mono ?_); (case side1 => exact cc_ ((Kd.C_below HR0.out HB.out))); (case side2 => exact HC0.out); (case side3 => exact cc_ ((Kd.C_below HR1.out HB.out))); (case side4 => exact HC1.out); rintro e w89 ⟨v452, rfl, ho0, hb⟩; refine ⟨_, rfl, ?_⟩; have n0_ := Aside0.mk (Kd.R_lower ho0 (below_size (bb_ HB))); have n1_ := Aside0.mk (below_step (bb_ HB) hb); clear HB; have HO453 := n0_; have HB := n1_; clear n0_ n1_; (try clear hb); (try clear hb2); (try clear hk); (try clear hi); (try clear ho0)) | ((with_reducible refine gate_callee (f := 13) rfl ?_); refine gl_ (some 48) Try.func13 #[.slice A0 l0.length c0, .slice A1 l1.length c1, .int .i64 a3] ?_; (with_reducible refine (leak_Explain.calls _ _ l0 _ _ l1 a3 t454 t455 t456 _ ?side1 ?side2 ?side3 ?side4 A16.out).mono ?_); (case side1 => exact cc_ ((Kd.C_below HR0.out HB.out))); (case side2 => exact HC0.out); (case side3 => exact cc_ ((Kd.C_below HR1.out HB.out))); (case side4 => exact HC1.out); rintro e w90 ⟨v457, rfl, ho0, hb⟩; refine ⟨_, rfl, ?_⟩; have n0_ := Aside0.mk (Kd.R_elder' (rr_ HO453) (Kd.R_base ho0) hb); have n1_ := Aside0.mk (Kd.R_lower (Kd.R_new' ho0 (Kd.R_lt (rr_ HO453))) (below_size (bb_ HB))); have n2_ := Aside0.mk (below_step (bb_ HB) hb); clear HO453; clear HB; have HO453 := n0_; have HO458 := n1_; have HB := n2_; clear n0_ n1_ n2_; (try clear hb); (try clear hb2); (try clear hk); (try clear hi); (try clear ho0)) | ((with_reducible refine gate_callee (f := 16) rfl ?_); refine gl_ (some 56) Try.func16 #[.slice A0 l0.length c0, .slice A1 l1.length c1, .int .i64 a2] ?_; (with_reducible refine (leak_Sure.calls _ _ l0 _ _ l1 a2 t459 t460 _ ?side1 ?side2 ?side3 ?side4 A17.out).mono ?_); (case side1 => exact cc_ ((Kd.C_below HR0.out HB.out))); (case side2 => exact HC0.out); (case side3 => exact cc_ ((Kd.C_below HR1.out HB.out))); (case side4 => exact HC1.out); rintro e w91 ⟨v461, rfl, ho0, hb⟩; refine ⟨_, rfl, ?_⟩; have n0_ := Aside0.mk (Kd.R_elder' (rr_ HO453) (Kd.R_base ho0) hb); have n1_ := Aside0.mk (Kd.R_elder' (rr_ HO458) (Kd.R_base ho0) hb); have n2_ := Aside0.mk (Kd.R_lower (Kd.R_new' (Kd.R_new' ho0 (Kd.R_lt (rr_ HO453))) (Kd.R_lt (rr_ HO458))) (below_size (bb_ HB))); have n3_ := Aside0.mk (below_step (bb_ HB) hb); clear HO453; clear HO458; clear HB; have HO453 := n0_; have HO458 := n1_; have HO462 := n2_; have HB := n3_; clear n0_ n1_ n2_ n3_; (try clear hb); (try clear hb2); (try clear hk); (try clear hi); (try clear ho0)) | ((with_reducible refine gate_callee (f := 16) rfl ?_); refine gl_ (some 63) Try.func16 #[.slice A0 l0.length c0, .slice A1 l1.length c1, .int .i64 a3] ?_; (with_reducible refine (leak_Sure.calls _ _ l0 _ _ l1 a3 t463 t464 _ ?side1 ?side2 ?side3 ?side4 A18.out).mono ?_); (case side1 => exact cc_ ((Kd.C_below HR0.out HB.out))); (case side2 => exact HC0.out); (case side3 => exact cc_ ((Kd.C_below HR1.out HB.out))); (case side4 => exact HC1.out); rintro e w92 ⟨v465, rfl, ho0, hb⟩; refine ⟨_, rfl, ?_⟩; have n0_ := Aside0.mk (Kd.R_elder' (rr_ HO453) (Kd.R_base ho0) hb); have n1_ := Aside0.mk (Kd.R_elder' (rr_ HO458) (Kd.R_base ho0) hb); have n2_ := Aside0.mk (Kd.R_elder' (rr_ HO462) (Kd.R_base ho0) hb); have n3_ := Aside0.mk (Kd.R_lower (Kd.R_new' (Kd.R_new' (Kd.R_new' ho0 (Kd.R_lt (rr_ HO453))) (Kd.R_lt (rr_ HO458))) (Kd.R_lt (rr_ HO462))) (below_size (bb_ HB))); have n4_ := Aside0.mk (below_step (bb_ HB) hb); clear HO453; clear HO458; clear HO462; clear HB; have HO453 := n0_; have HO458 := n1_; have HO462 := n2_; have HO466 := n3_; have HB := n4_; clear n0_ n1_ n2_ n3_ n4_; (try clear hb); (try clear hb2); (try clear hk); (try clear hi); (try clear ho0)))
        go_ret
        exact ⟨ew_, by repeat (first | (with_reducible first | exact HB.out | apply below_alloc | apply pw_below_drewN | apply below_drew1) | exact HB.out)⟩
      ·rw [if_neg c72] at H
       have c72b0 : (t451 == 0) = false := beq_eq_false_iff_ne.mpr c72
       have c72b1 : (t451 != 0) = true := bne_iff_ne.mpr c72
       obtain rfl := Option.some.inj H
       go_wp2_with (first | ((with_reducible refine gate_callee (f := 13) rfl ?_); refine gl_ (some 40) Try.func13 #[.slice A0 l0.length c0, .slice A1 l1.length c1, .int .i64 a2] ?_; (with_reducible refine (leak_Explain.calls _ _ l0 _ _ l1 a2 t449 false t451 _ ?side1 ?side2 ?side3 ?side4 A15.out).mono ?_); (case side1 => exact cc_ ((Kd.C_below HR0.out HB.out))); (case side2 => exact HC0.out); (case side3 => exact cc_ ((Kd.C_below HR1.out HB.out))); (case side4 => exact HC1.out); rintro e w93 ⟨v452, rfl, ho0, hb⟩; refine ⟨_, rfl, ?_⟩; have n0_ := Aside0.mk (Kd.R_lower ho0 (below_size (bb_ HB))); have n1_ := Aside0.mk (below_step (bb_ HB) hb); clear HB; have HO453 := n0_; have HB := n1_; clear n0_ n1_; (try clear hb); (try clear hb2); (try clear hk); (try clear hi); (try clear ho0)) | ((with_reducible refine gate_callee (f := 13) rfl ?_); refine gl_ (some 48) Try.func13 #[.slice A0 l0.length c0, .slice A1 l1.length c1, .int .i64 a3] ?_; (with_reducible refine (leak_Explain.calls _ _ l0 _ _ l1 a3 t454 t455 t456 _ ?side1 ?side2 ?side3 ?side4 A16.out).mono ?_); (case side1 => exact cc_ ((Kd.C_below HR0.out HB.out))); (case side2 => exact HC0.out); (case side3 => exact cc_ ((Kd.C_below HR1.out HB.out))); (case side4 => exact HC1.out); rintro e w94 ⟨v457, rfl, ho0, hb⟩; refine ⟨_, rfl, ?_⟩; have n0_ := Aside0.mk (Kd.R_elder' (rr_ HO453) (Kd.R_base ho0) hb); have n1_ := Aside0.mk (Kd.R_lower (Kd.R_new' ho0 (Kd.R_lt (rr_ HO453))) (below_size (bb_ HB))); have n2_ := Aside0.mk (below_step (bb_ HB) hb); clear HO453; clear HB; have HO453 := n0_; have HO458 := n1_; have HB := n2_; clear n0_ n1_ n2_; (try clear hb); (try clear hb2); (try clear hk); (try clear hi); (try clear ho0)) | ((with_reducible refine gate_callee (f := 16) rfl ?_); refine gl_ (some 56) Try.func16 #[.slice A0 l0.length c0, .slice A1 l1.length c1, .int .i64 a2] ?_; (with_reducible refine (leak_Sure.calls _ _ l0 _ _ l1 a2 t459 t460 _ ?side1 ?side2 ?side3 ?side4 A17.out).mono ?_); (case side1 => exact cc_ ((Kd.C_below HR0.out HB.out))); (case side2 => exact HC0.out); (case side3 => exact cc_ ((Kd.C_below HR1.out HB.out))); (case side4 => exact HC1.out); rintro e w95 ⟨v461, rfl, ho0, hb⟩; refine ⟨_, rfl, ?_⟩; have n0_ := Aside0.mk (Kd.R_elder' (rr_ HO453) (Kd.R_base ho0) hb); have n1_ := Aside0.mk (Kd.R_elder' (rr_ HO458) (Kd.R_base ho0) hb); have n2_ := Aside0.mk (Kd.R_lower (Kd.R_new' (Kd.R_new' ho0 (Kd.R_lt (rr_ HO453))) (Kd.R_lt (rr_ HO458))) (below_size (bb_ HB))); have n3_ := Aside0.mk (below_step (bb_ HB) hb); clear HO453; clear HO458; clear HB; have HO453 := n0_; have HO458 := n1_; have HO462 := n2_; have HB := n3_; clear n0_ n1_ n2_ n3_; (try clear hb); (try clear hb2); (try clear hk); (try clear hi); (try clear ho0)) | ((with_reducible refine gate_callee (f := 16) rfl ?_); refine gl_ (some 63) Try.func16 #[.slice A0 l0.length c0, .slice A1 l1.length c1, .int .i64 a3] ?_; (with_reducible refine (leak_Sure.calls _ _ l0 _ _ l1 a3 t463 t464 _ ?side1 ?side2 ?side3 ?side4 A18.out).mono ?_); (case side1 => exact cc_ ((Kd.C_below HR0.out HB.out))); (case side2 => exact HC0.out); (case side3 => exact cc_ ((Kd.C_below HR1.out HB.out))); (case side4 => exact HC1.out); rintro e w96 ⟨v465, rfl, ho0, hb⟩; refine ⟨_, rfl, ?_⟩; have n0_ := Aside0.mk (Kd.R_elder' (rr_ HO453) (Kd.R_base ho0) hb); have n1_ := Aside0.mk (Kd.R_elder' (rr_ HO458) (Kd.R_base ho0) hb); have n2_ := Aside0.mk (Kd.R_elder' (rr_ HO462) (Kd.R_base ho0) hb); have n3_ := Aside0.mk (Kd.R_lower (Kd.R_new' (Kd.R_new' (Kd.R_new' ho0 (Kd.R_lt (rr_ HO453))) (Kd.R_lt (rr_ HO458))) (Kd.R_lt (rr_ HO462))) (below_size (bb_ HB))); have n4_ := Aside0.mk (below_step (bb_ HB) hb); clear HO453; clear HO458; clear HO462; clear HB; have HO453 := n0_; have HO458 := n1_; have HO462 := n2_; have HO466 := n3_; have HB := n4_; clear n0_ n1_ n2_ n3_ n4_; (try clear hb); (try clear hb2); (try clear hk); (try clear hi); (try clear ho0)))
       go_ret
       exact ⟨ew_, by repeat (first | (with_reducible first | exact HB.out | apply below_alloc | apply pw_below_drewN | apply below_drew1) | exact HB.out)⟩
     ·replace c71 := Bool.eq_false_iff.mpr c71
      subst c71
      have H1 : (some false) = some r := by rw [if_neg (show ¬ (false = true) by decide)] at H; exact H
      clear H
      have H := H1
      clear H1
      obtain rfl := Option.some.inj H
      go_wp2_with (first | ((with_reducible refine gate_callee (f := 13) rfl ?_); refine gl_ (some 40) Try.func13 #[.slice A0 l0.length c0, .slice A1 l1.length c1, .int .i64 a2] ?_; (with_reducible refine (leak_Explain.calls _ _ l0 _ _ l1 a2 t449 false t451 _ ?side1 ?side2 ?side3 ?side4 A15.out).mono ?_); (case side1 => exact cc_ ((Kd.C_below HR0.out HB.out))); (case side2 => exact HC0.out); (case side3 => exact cc_ ((Kd.C_below HR1.out HB.out))); (case side4 => exact HC1.out); rintro e w97 ⟨v452, rfl, ho0, hb⟩; refine ⟨_, rfl, ?_⟩; have n0_ := Aside0.mk (Kd.R_lower ho0 (below_size (bb_ HB))); have n1_ := Aside0.mk (below_step (bb_ HB) hb); clear HB; have HO453 := n0_; have HB := n1_; clear n0_ n1_; (try clear hb); (try clear hb2); (try clear hk); (try clear hi); (try clear ho0)) | ((with_reducible refine gate_callee (f := 13) rfl ?_); refine gl_ (some 48) Try.func13 #[.slice A0 l0.length c0, .slice A1 l1.length c1, .int .i64 a3] ?_; (with_reducible refine (leak_Explain.calls _ _ l0 _ _ l1 a3 t454 t455 t456 _ ?side1 ?side2 ?side3 ?side4 A16.out).mono ?_); (case side1 => exact cc_ ((Kd.C_below HR0.out HB.out))); (case side2 => exact HC0.out); (case side3 => exact cc_ ((Kd.C_below HR1.out HB.out))); (case side4 => exact HC1.out); rintro e w98 ⟨v457, rfl, ho0, hb⟩; refine ⟨_, rfl, ?_⟩; have n0_ := Aside0.mk (Kd.R_elder' (rr_ HO453) (Kd.R_base ho0) hb); have n1_ := Aside0.mk (Kd.R_lower (Kd.R_new' ho0 (Kd.R_lt (rr_ HO453))) (below_size (bb_ HB))); have n2_ := Aside0.mk (below_step (bb_ HB) hb); clear HO453; clear HB; have HO453 := n0_; have HO458 := n1_; have HB := n2_; clear n0_ n1_ n2_; (try clear hb); (try clear hb2); (try clear hk); (try clear hi); (try clear ho0)) | ((with_reducible refine gate_callee (f := 16) rfl ?_); refine gl_ (some 56) Try.func16 #[.slice A0 l0.length c0, .slice A1 l1.length c1, .int .i64 a2] ?_; (with_reducible refine (leak_Sure.calls _ _ l0 _ _ l1 a2 t459 t460 _ ?side1 ?side2 ?side3 ?side4 A17.out).mono ?_); (case side1 => exact cc_ ((Kd.C_below HR0.out HB.out))); (case side2 => exact HC0.out); (case side3 => exact cc_ ((Kd.C_below HR1.out HB.out))); (case side4 => exact HC1.out); rintro e w99 ⟨v461, rfl, ho0, hb⟩; refine ⟨_, rfl, ?_⟩; have n0_ := Aside0.mk (Kd.R_elder' (rr_ HO453) (Kd.R_base ho0) hb); have n1_ := Aside0.mk (Kd.R_elder' (rr_ HO458) (Kd.R_base ho0) hb); have n2_ := Aside0.mk (Kd.R_lower (Kd.R_new' (Kd.R_new' ho0 (Kd.R_lt (rr_ HO453))) (Kd.R_lt (rr_ HO458))) (below_size (bb_ HB))); have n3_ := Aside0.mk (below_step (bb_ HB) hb); clear HO453; clear HO458; clear HB; have HO453 := n0_; have HO458 := n1_; have HO462 := n2_; have HB := n3_; clear n0_ n1_ n2_ n3_; (try clear hb); (try clear hb2); (try clear hk); (try clear hi); (try clear ho0)) | ((with_reducible refine gate_callee (f := 16) rfl ?_); refine gl_ (some 63) Try.func16 #[.slice A0 l0.length c0, .slice A1 l1.length c1, .int .i64 a3] ?_; (with_reducible refine (leak_Sure.calls _ _ l0 _ _ l1 a3 t463 t464 _ ?side1 ?side2 ?side3 ?side4 A18.out).mono ?_); (case side1 => exact cc_ ((Kd.C_below HR0.out HB.out))); (case side2 => exact HC0.out); (case side3 => exact cc_ ((Kd.C_below HR1.out HB.out))); (case side4 => exact HC1.out); rintro e w100 ⟨v465, rfl, ho0, hb⟩; refine ⟨_, rfl, ?_⟩; have n0_ := Aside0.mk (Kd.R_elder' (rr_ HO453) (Kd.R_base ho0) hb); have n1_ := Aside0.mk (Kd.R_elder' (rr_ HO458) (Kd.R_base ho0) hb); have n2_ := Aside0.mk (Kd.R_elder' (rr_ HO462) (Kd.R_base ho0) hb); have n3_ := Aside0.mk (Kd.R_lower (Kd.R_new' (Kd.R_new' (Kd.R_new' ho0 (Kd.R_lt (rr_ HO453))) (Kd.R_lt (rr_ HO458))) (Kd.R_lt (rr_ HO462))) (below_size (bb_ HB))); have n4_ := Aside0.mk (below_step (bb_ HB) hb); clear HO453; clear HO458; clear HO462; clear HB; have HO453 := n0_; have HO458 := n1_; have HO462 := n2_; have HO466 := n3_; have HB := n4_; clear n0_ n1_ n2_ n3_ n4_; (try clear hb); (try clear hb2); (try clear hk); (try clear hi); (try clear ho0)))
      go_ret
      exact ⟨ew_, by repeat (first | (with_reducible first | exact HB.out | apply below_alloc | apply pw_below_drewN | apply below_drew1) | exact HB.out)⟩
end
end Go.Proofs.Ytolmjhpapidmhaa.P
end
section
namespace Go.Proofs.Ytolmjhpapidmhaa.P
open Go.RowKit Go.Proofs.YtolmjhpapidmhaaW.PrintWords Go.Proofs.YtolmjhpapidmhaaW.PrintLast Go.Proofs.YtolmjhpapidmhaaW.PrintMore Go.Proofs.YtolmjhpapidmhaaH Go.Proofs.FlowTree
open Classical
theorem explainR_len (l : List PI) (r : List RG) (a : Int) : (explainR l r a).1.length ≤ 1000 := by
 unfold explainR
 by_cases h : houseE l r a = 0
 ·have h0 := houseE_0 h
  rw [if_pos h, smallM_eq (houseE_good h) _ _ (fun t ht => by omega)]
  cases hx : smallR l r 0 (a.toNat + 1) with
  | nil => simp
  | cons s rest =>
   have := small_mem (show s ∈ smallR l r 0 (a.toNat + 1) by rw [hx]; simp)
   simp only []
   omega
 ·rw [if_neg h]; simp
theorem sureR_len (l : List PI) (r : List RG) (a : Int) : (sureR l r a).1.length ≤ 1000 := by
 unfold sureR
 by_cases h : houseE l r a = 0
 ·have h0 := houseE_0 h
  rw [if_pos h, smallM_eq (houseE_good h) _ _ (fun t ht => by omega)]
  cases hx : smallR l r 0 (a.toNat + 1) with
  | nil => simp
  | cons s rest =>
   have := small_mem (show s ∈ smallR l r 0 (a.toNat + 1) by rw [hx]; simp)
   simp only []
   rw [foldl_filter]
   exact Nat.le_trans (List.length_filter_le _ _) (by omega)
 ·rw [if_neg h]; simp
section
variable (l : List PI) (r : List RG) (hl : l.length ≤ 5864062014805) (hr : r.length ≤ 140737488355328)
include hl hr
theorem more_ (a b : Int) : Ev (fun k => cohousinglaw30_LeakMore.f k l r a b) true := by
 have hout : Ev (fun k => cohousinglaw30_LeakMore.j0 k l r a b true true) true := by
  refine Ev.step ?_
  simp only [cohousinglaw30_LeakMore.j0, if_true]
  exact Ev.pure _
 unfold cohousinglaw30_LeakMore.f
 refine Ev.bnd head30 ?_
 refine Ev.bnd (usable_f l r a) ?_
 by_cases hU : U l r a
 ·simp only [decide_eq_true hU, if_true]
  by_cases c1 : b < a
  ·simp only [c1, if_true]
   exact hout
  simp only [c1, if_false]
  by_cases c2 : b > 3
  ·rw [decide_eq_true c2]
   exact hout
  rw [decide_eq_false c2]
  have hV : U l r b := ⟨hU.n, hU.m, hU.good, by have := hU.a0; omega, by omega⟩
  refine Ev.step ?_
  simp only [cohousinglaw30_LeakMore.j0, Bool.false_eq_true, if_false, leakExplain_f l r a hl hr, leakSure_f l r a hl hr, leakExplain_f l r b hl hr, leakSure_f l r b hl hr, Option.bind_some]
  have h := told hU
  have h' := told hV
  have hx := explainR_len l r a
  have hy := sureR_len l r a
  generalize explainR l r a = x at h hx
  generalize sureR l r a = y at h hy
  generalize explainR l r b = x' at h'
  generalize sureR l r b = y' at h'
  cases h with
  | none hno =>
   cases h' with
   | none hno' =>
    simp only [if_true, Bool.false_eq_true, if_false]
    exact Ev.pure _
   | some t s rest h1 h2 h3 =>
    have hs := exs_len (show s ∈ exs l r t by rw [h2]; simp)
    have ht : ¬ ((t : Int) ≤ a) := fun h => by rw [hno t h] at h2; cases h2
    simp only [if_true, Bool.false_eq_true, if_false]
    rw [decide_eq_true (show (s.length : Int) > a by omega)]
    exact Ev.pure _
  | some t s rest h1 h2 h3 =>
   cases h' with
   | none hno' => rw [hno' t (by omega)] at h2; cases h2
   | some t' s' rest' h1' h2' h3' =>
    have e : t = t' := by
     rcases Nat.lt_trichotomy t t' with h | h | h
     ·rw [h3' t h] at h2; cases h2
     ·exact h
     ·rw [h3 t' h] at h2'; cases h2'
    subst e
    rw [h2] at h2'
    injection h2' with e1 e2
    subst e1
    subst e2
    simp only [if_true]
    refine Ev.bnd (same_f' s s (by simp only at hx; omega)) ?_
    simp only [decide_true, if_true]
    refine Ev.bnd (same_f' _ _ (by simp only at hy; omega)) ?_
    rw [decide_eq_true rfl]
    exact Ev.pure _
 ·simp only [decide_eq_false hU, Bool.false_eq_true, if_false]
  exact hout
end
end Go.Proofs.Ytolmjhpapidmhaa.P
end
