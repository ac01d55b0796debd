/- Part 8 of the base that the seat's proofs share: words, walks and plain laws. -/
import Derived.Test.YtmhimmodigeeiaaCBg
set_option linter.unusedVariables false
set_option linter.unusedSimpArgs false
section
namespace Go.Proofs.Ytmhimmodigeeiaa.P
open Go.RowKit Go.Proofs.YtmhimmodigeeiaaW.PrintWords Go.Proofs.YtmhimmodigeeiaaW.PrintLast Go.Proofs.YtmhimmodigeeiaaW.PrintMore
attribute [local go_sem] max2_int min2_int max_two min_two max_three min_three max_four min_four
set_option linter.unusedVariables false
set_option linter.unusedSimpArgs false
set_option maxHeartbeats 8000000
set_option maxRecDepth 100000
section
mutual
def cohousingref05_Valid.j0 : Nat → List (S51) → Bool → Option (Bool)
 | 0, _, _ => none
 | k + 1, x0, x20 => if x20 = true then (some false) else (cohousingref05_Valid.l0 k x0 0)
def cohousingref05_Valid.l0 : Nat → List (S51) → Int → Option (Bool)
 | 0, _, _ => none
 | k + 1, x0, x3 => if x3 < (x0.length : Int) then (if x3 > 0 then (if 0 ≤ x3 then (if 0 ≤ (wrap64 (x3 - 1)) then (if (wrap64 (x3 - 1)) < (x0.length : Int) then (if ((rd_T51 x0 x3).f0) ≤ ((rd_T51 x0 (wrap64 (x3 - 1))).f0) then (cohousingref05_Valid.j2 k x0 x3 true) else (cohousingref05_Valid.j2 k x0 x3 (decide (((rd_T51 x0 x3).f0) > 100000)))) else (none)) else (none)) else (none)) else (if 0 ≤ x3 then (cohousingref05_Valid.j2 k x0 x3 (decide (((rd_T51 x0 x3).f0) > 100000))) else (none))) else (some true)
def cohousingref05_Valid.j2 : Nat → List (S51) → Int → Bool → Option (Bool)
 | 0, _, _, _ => none
 | k + 1, x0, x3, x50 => if x50 = true then (some false) else (if 0 ≤ x3 then (if x3 < (x0.length : Int) then ((cohousingref01_Valid.f k ((rd_T51 x0 x3).f1.f0) ((rd_T51 x0 x3).f1.f1)).bind fun t272 => ((cohousingref01_Valid.f k ((rd_T51 x0 x3).f2.f0) ((rd_T51 x0 x3).f2.f1)).bind fun t274 => (if t272 = true then (if t274 = true then (if ((rd_T51 x0 x3).f1.f1) > 100 then (some false) else (if ((rd_T51 x0 x3).f2.f1) > 100 then (some false) else (if ((rd_T51 x0 x3).f2.f0) > 100000 then (some false) else (if ((rd_T51 x0 x3).f2.f0) < (-100000) then (some false) else (cohousingref05_Valid.l0 k x0 (wrap64 (x3 + 1))))))) else (some false)) else (some false)))) else (none)) else (none))
end
def cohousingref05_Valid.f (k : Nat) (l0 : List (S51)) : Option (Bool) := if (l0.length : Int) < 1 then (cohousingref05_Valid.j0 k l0 true) else (if (l0.length : Int) > 64 then (cohousingref05_Valid.j0 k l0 true) else (if 0 < (l0.length : Int) then (cohousingref05_Valid.j0 k l0 (((rd_T51 l0 0).f0) != 0)) else (none)))
theorem cohousingref05_Valid.calls (k : Nat) (A0 : Option Addr) (c0 : Nat) (l0 : List (S51)) (r : Bool) (w : World) (hr0 : Kd.C k51 w A0 l0.length l0) (hc0 : l0.length ≤ c0) (h : cohousingref05_Valid.f k l0 = some r) :
  Calls Try.prog 15 #[.slice A0 l0.length c0] w fun e w' => e = .returned (.bool r) ∧ Below w.heap.size w w' := by
 have hu24 := Try.underlying24
 have HR0 := mk_ hr0
 have HC0 := mk_ hc0
 clear hr0 hc0
 have HB := mk_ (Below.refl w.heap.size w)
 have H : (if (l0.length : Int) < 1 then (cohousingref05_Valid.j0 k l0 true) else (if (l0.length : Int) > 64 then (cohousingref05_Valid.j0 k l0 true) else (if 0 < (l0.length : Int) then (cohousingref05_Valid.j0 k l0 (((rd_T51 l0 0).f0) != 0)) else (none)))) = some r := h
 clear h
 have HC2 := mk_ H
 clear H
 go_enter Try.func15, Try.ntmps15
 go_upto_region 1 with (fail)
 repeat (go_quiet (fail); go_upto_region 1 with (fail))
 go_cut [20] (fun v20 wc => ∃ (kq : Nat) (x20_1 : Bool), v20 = .bool x20_1 ∧ Aside0 (cohousingref05_Valid.j0 kq l0 x20_1 = some r) ∧ Aside0 (kq ≤ k) ∧ Aside0 (Below w.heap.size w wc))
 case first =>
  have H := HC2.out
  clear HC2
  by_cases c3 : (l0.length : Int) < 1
  ·rw [if_pos c3] at H
   have c3b0 : decide ((l0.length : Int) < 1) = true := decide_eq_true c3
   have c3b1 : decide (l0.length < 1) = true := decide_eq_true (by omega)
   clear c3
   (first | rw [c3b0] | (simp only [i64_w, i32_w]; rw [c3b0]) | skip)
   have H' := mk_ H
   clear H
   go_wp2
   repeat (go_quiet (fail); try go_wp2)
   go_meet
   case rel => exact ⟨_, (true), sd_, H', ⟨by first | omega | exact Nat.le_refl _⟩, ⟨bb_ HB⟩⟩
  rw [if_neg c3] at H
  have c3b0 : decide ((l0.length : Int) < 1) = false := decide_eq_false c3
  have c3b1 : decide (l0.length < 1) = false := decide_eq_false (by omega)
  clear c3
  (first | rw [c3b0] | (simp only [i64_w, i32_w]; rw [c3b0]) | skip)
  by_cases c4 : (l0.length : Int) > 64
  ·rw [if_pos c4] at H
   have c4b0 : decide (64 < (l0.length : Int)) = true := decide_eq_true c4
   have c4b1 : decide (64 < l0.length) = true := decide_eq_true (by omega)
   clear c4
   have H' := mk_ H
   clear H
   go_wp2
   repeat (go_quiet (fail); try go_wp2)
   go_meet
   case rel => exact ⟨_, (true), sd_, H', ⟨by first | omega | exact Nat.le_refl _⟩, ⟨bb_ HB⟩⟩
  rw [if_neg c4] at H
  have c4b0 : decide (64 < (l0.length : Int)) = false := decide_eq_false c4
  have c4b1 : decide (64 < l0.length) = false := decide_eq_false (by omega)
  clear c4
  by_cases c5 : 0 < (l0.length : Int)
  rotate_left
  ·rw [if_neg c5] at H
   exact absurd H (by simp)
  rw [if_pos c5] at H
  have c5b0 : decide (0 < (l0.length : Int)) = true := decide_eq_true c5
  have c5b1 : decide (0 < l0.length) = true := decide_eq_true (by omega)
  clear c5
  have H' := mk_ H
  clear H
  have p266 : 0 ≤ (0 : Int) := (by omega)
  have q266 : 0 < (l0.length : Int) := od_
  obtain ⟨ad266, e266, hx266_0, hx266_1, hx266_2, hx266_3, hx266_4⟩ := at_T51 HR0.out 0 p266 q266
  cases e266
  have qi266 : (0 < l0.length) = True := eq_true (by omega)
  (try rw [show ((0 : Int)).toNat = 0 from rfl] at hx266_0)
  (try rw [show 0 * 5 = 0 from rfl] at hx266_0)
  (try rw [Addr.add_zero'] at hx266_0)
  (try rw [show ((0 : Int)).toNat = 0 from rfl] at hx266_1)
  (try rw [show 0 * 5 = 0 from rfl] at hx266_1)
  (try rw [Addr.add_zero'] at hx266_1)
  (try rw [show ((0 : Int)).toNat = 0 from rfl] at hx266_2)
  (try rw [show 0 * 5 = 0 from rfl] at hx266_2)
  (try rw [Addr.add_zero'] at hx266_2)
  (try rw [show ((0 : Int)).toNat = 0 from rfl] at hx266_3)
  (try rw [show 0 * 5 = 0 from rfl] at hx266_3)
  (try rw [Addr.add_zero'] at hx266_3)
  (try rw [show ((0 : Int)).toNat = 0 from rfl] at hx266_4)
  (try rw [show 0 * 5 = 0 from rfl] at hx266_4)
  (try rw [Addr.add_zero'] at hx266_4)
  replace hx266_0 := cb_ HB hx266_0
  replace hx266_1 := cb_ HB hx266_1
  replace hx266_2 := cb_ HB hx266_2
  replace hx266_3 := cb_ HB hx266_3
  replace hx266_4 := cb_ HB hx266_4
  replace p266 := eq_true p266
  replace q266 := eq_true q266
  go_wp2
  repeat (go_quiet (fail); try go_wp2)
  go_meet
  case rel => exact ⟨_, ((((rd_T51 l0 0).f0) != 0)), sd_, H', ⟨by first | omega | exact Nat.le_refl _⟩, ⟨bb_ HB⟩⟩
 case rest =>
  clear HC2
  try clear c1; try clear p2; try clear q2; try clear hx2; try clear qi2; try clear c3; try clear c3b0; try clear c3b1; try clear c4; try clear c4b0; try clear c4b1; try clear c5; try clear c5b0; try clear c5b1; try clear hx266_0; try clear hx266_1; try clear hx266_2; try clear hx266_3; try clear hx266_4; try clear p266; try clear q266
  obtain ⟨kq, x20_1, rfl, HA, HJ1, HB⟩ := hcut
  cases kq with
  | zero => exact absurd HA.out (by simp [cohousingref05_Valid.j0])
  | succ kj1 =>
   have H := HA.out
   clear HA
   simp only [cohousingref05_Valid.j0] at H
   by_cases c6 : x20_1 = true
   ·subst c6
    have H1 : (some false) = some r := by rw [if_pos rfl] at H; exact H
    clear H
    have H := H1
    clear H1
    obtain rfl := Option.some.inj H
    go_wp2
    repeat (go_quiet (fail); try go_wp2)
    go_ret
    exact ⟨ew_, bb_ HB⟩
   replace c6 := Bool.eq_false_iff.mpr c6
   subst c6
   have H1 : (cohousingref05_Valid.l0 kj1 l0 0) = some r := by rw [if_neg (show ¬ (false = true) by decide)] at H; exact H
   clear H
   have H := H1
   clear H1
   have H' := mk_ H
   clear H
   go_wp2
   repeat (go_quiet (fail); try go_wp2)
   go_loopg [3] kj1 (fun kq v3 w' => ∃ (x3_2 : Int), v3 = .int .i64 x3_2 ∧ Aside0 (cohousingref05_Valid.l0 kq l0 x3_2 = some r) ∧ Aside0 (kq ≤ kj1) ∧ Aside0 (Below w.heap.size w w'))
   case atStart => exact ⟨(0), sd_, H', ⟨Nat.le_refl _⟩, ⟨bb_ HB⟩⟩
   case round =>
    clear H'
    try clear c1; try clear p2; try clear q2; try clear hx2; try clear qi2; try clear c3; try clear c3b0; try clear c3b1; try clear c4; try clear c4b0; try clear c4b1; try clear c5; try clear c5b0; try clear c5b1; try clear c6; try clear hx266_0; try clear hx266_1; try clear hx266_2; try clear hx266_3; try clear hx266_4; try clear p2; try clear p266; try clear q2; try clear q266
    obtain ⟨x3_2, rfl, HA, HK2, HB⟩ := hrel
    cases gk with
    | zero => exact absurd HA.out (by simp [cohousingref05_Valid.l0])
    | succ k2 =>
     have H := HA.out
     clear HA
     simp only [cohousingref05_Valid.l0] at H
     by_cases c7 : x3_2 < (l0.length : Int)
     rotate_left
     ·rw [if_neg c7] at H
      have c7b0 : decide (x3_2 < (l0.length : Int)) = false := decide_eq_false c7
      clear c7
      obtain rfl := Option.some.inj H
      go_wp2
      repeat (go_quiet (fail); try go_wp2)
      go_ret
      exact ⟨ew_, bb_ HB⟩
     rw [if_pos c7] at H
     have c7b0 : decide (x3_2 < (l0.length : Int)) = true := decide_eq_true c7
     clear c7
     have HC8 := mk_ H
     clear H
     go_upto_region 6 with (fail)
     repeat (go_quiet (fail); go_upto_region 6 with (fail))
     go_cut [50] (fun v50 wc => ∃ (kq : Nat) (x50_7 : Bool), v50 = .bool x50_7 ∧ Aside0 (cohousingref05_Valid.j2 kq l0 x3_2 x50_7 = some r) ∧ Aside0 (kq ≤ k2) ∧ Aside0 (Below w.heap.size w wc))
     case first =>
      have H := HC8.out
      clear HC8
      by_cases c9 : x3_2 > 0
      rotate_left
      ·rw [if_neg c9] at H
       have c9b0 : decide (0 < x3_2) = false := decide_eq_false c9
       clear c9
       (first | rw [c9b0] | (simp only [i64_w, i32_w]; rw [c9b0]) | skip)
       by_cases c15 : 0 ≤ x3_2
       rotate_left
       ·rw [if_neg c15] at H
        exact absurd H (by simp)
       rw [if_pos c15] at H
       have c15b0 : decide (0 ≤ x3_2) = true := decide_eq_true c15
       clear c15
       have H' := mk_ H
       clear H
       have p270 : 0 ≤ (x3_2 : Int) := od_
       have q270 : x3_2 < (l0.length : Int) := od_
       obtain ⟨ad270, e270, hx270_0, hx270_1, hx270_2, hx270_3, hx270_4⟩ := at_T51 HR0.out x3_2 p270 q270
       cases e270
       replace hx270_0 := cb_ HB hx270_0
       replace hx270_1 := cb_ HB hx270_1
       replace hx270_2 := cb_ HB hx270_2
       replace hx270_3 := cb_ HB hx270_3
       replace hx270_4 := cb_ HB hx270_4
       replace p270 := eq_true p270
       replace q270 := eq_true q270
       go_wp2
       repeat (go_quiet (fail); try go_wp2)
       go_meet
       case rel => exact ⟨_, (decide (((rd_T51 l0 x3_2).f0) > 100000)), sd_, H', ⟨by have := HJ1.out; have := HK2.out; first | omega | exact Nat.le_refl _⟩, ⟨bb_ HB⟩⟩
      rw [if_pos c9] at H
      have c9b0 : decide (0 < x3_2) = true := decide_eq_true c9
      clear c9
      (first | rw [c9b0] | (simp only [i64_w, i32_w]; rw [c9b0]) | skip)
      by_cases c10 : 0 ≤ x3_2
      rotate_left
      ·rw [if_neg c10] at H
       exact absurd H (by simp)
      rw [if_pos c10] at H
      have c10b0 : decide (0 ≤ x3_2) = true := decide_eq_true c10
      clear c10
      obtain ⟨ji11, hji11⟩ : ∃ j_ : Int, (wrap64 (x3_2 - 1)) = j_ := ⟨_, rfl⟩
      replace H : (if 0 ≤ (ji11) then (if (ji11) < (l0.length : Int) then (if ((rd_T51 l0 x3_2).f0) ≤ ((rd_T51 l0 (ji11)).f0) then (cohousingref05_Valid.j2 k2 l0 x3_2 true) else (cohousingref05_Valid.j2 k2 l0 x3_2 (decide (((rd_T51 l0 x3_2).f0) > 100000)))) else (none)) else (none)) = some r := by first | (rw [hji11] at H; exact H) | (simp only [hji11] at H ⊢; exact H)
      have hji11w : (IntKind.i64.wrap (x3_2 - 1)) = ji11 := (i64_w _).trans hji11
      by_cases c12 : 0 ≤ (ji11)
      rotate_left
      ·rw [if_neg c12] at H
       exact absurd H (by simp)
      rw [if_pos c12] at H
      have c12b0 : decide (0 ≤ (ji11)) = true := decide_eq_true c12
      clear c12
      by_cases c13 : (ji11) < (l0.length : Int)
      rotate_left
      ·rw [if_neg c13] at H
       exact absurd H (by simp)
      rw [if_pos c13] at H
      have c13b0 : decide ((ji11) < (l0.length : Int)) = true := decide_eq_true c13
      clear c13
      by_cases c14 : ((rd_T51 l0 x3_2).f0) ≤ ((rd_T51 l0 (ji11)).f0)
      ·rw [if_pos c14] at H
       have c14b0 : decide (((rd_T51 l0 x3_2).f0) ≤ ((rd_T51 l0 (ji11)).f0)) = true := decide_eq_true c14
       clear c14
       have H' := mk_ H
       clear H
       have p267 : 0 ≤ (x3_2 : Int) := od_
       have q267 : x3_2 < (l0.length : Int) := od_
       obtain ⟨ad267, e267, hx267_0, hx267_1, hx267_2, hx267_3, hx267_4⟩ := at_T51 HR0.out x3_2 p267 q267
       cases e267
       replace hx267_0 := cb_ HB hx267_0
       replace hx267_1 := cb_ HB hx267_1
       replace hx267_2 := cb_ HB hx267_2
       replace hx267_3 := cb_ HB hx267_3
       replace hx267_4 := cb_ HB hx267_4
       replace p267 := eq_true p267
       replace q267 := eq_true q267
       have p268 : 0 ≤ ((ji11) : Int) := od_
       have q268 : (ji11) < (l0.length : Int) := od_
       obtain ⟨ad268, e268, hx268_0, hx268_1, hx268_2, hx268_3, hx268_4⟩ := at_T51 HR0.out (ji11) p268 q268
       obtain rfl : ad267 = ad268 := (by injection e268)
       replace hx268_0 := cb_ HB hx268_0
       replace hx268_1 := cb_ HB hx268_1
       replace hx268_2 := cb_ HB hx268_2
       replace hx268_3 := cb_ HB hx268_3
       replace hx268_4 := cb_ HB hx268_4
       replace p268 := eq_true p268
       replace q268 := eq_true q268
       go_wp2
       repeat (go_quiet (fail); try go_wp2)
       go_meet
       case rel => exact ⟨_, (true), sd_, H', ⟨by have := HJ1.out; have := HK2.out; first | omega | exact Nat.le_refl _⟩, ⟨bb_ HB⟩⟩
      rw [if_neg c14] at H
      have c14b0 : decide (((rd_T51 l0 x3_2).f0) ≤ ((rd_T51 l0 (ji11)).f0)) = false := decide_eq_false c14
      clear c14
      have H' := mk_ H
      clear H
      have p267 : 0 ≤ (x3_2 : Int) := od_
      have q267 : x3_2 < (l0.length : Int) := od_
      obtain ⟨ad267, e267, hx267_0, hx267_1, hx267_2, hx267_3, hx267_4⟩ := at_T51 HR0.out x3_2 p267 q267
      cases e267
      replace hx267_0 := cb_ HB hx267_0
      replace hx267_1 := cb_ HB hx267_1
      replace hx267_2 := cb_ HB hx267_2
      replace hx267_3 := cb_ HB hx267_3
      replace hx267_4 := cb_ HB hx267_4
      replace p267 := eq_true p267
      replace q267 := eq_true q267
      have p268 : 0 ≤ ((ji11) : Int) := od_
      have q268 : (ji11) < (l0.length : Int) := od_
      obtain ⟨ad268, e268, hx268_0, hx268_1, hx268_2, hx268_3, hx268_4⟩ := at_T51 HR0.out (ji11) p268 q268
      obtain rfl : ad267 = ad268 := (by injection e268)
      replace hx268_0 := cb_ HB hx268_0
      replace hx268_1 := cb_ HB hx268_1
      replace hx268_2 := cb_ HB hx268_2
      replace hx268_3 := cb_ HB hx268_3
      replace hx268_4 := cb_ HB hx268_4
      replace p268 := eq_true p268
      replace q268 := eq_true q268
      have p269 : 0 ≤ (x3_2 : Int) := od_
      have q269 : x3_2 < (l0.length : Int) := od_
      obtain ⟨ad269, e269, hx269_0, hx269_1, hx269_2, hx269_3, hx269_4⟩ := at_T51 HR0.out x3_2 p269 q269
      obtain rfl : ad267 = ad269 := (by injection e269)
      replace hx269_0 := cb_ HB hx269_0
      replace hx269_1 := cb_ HB hx269_1
      replace hx269_2 := cb_ HB hx269_2
      replace hx269_3 := cb_ HB hx269_3
      replace hx269_4 := cb_ HB hx269_4
      replace p269 := eq_true p269
      replace q269 := eq_true q269
      go_wp2
      repeat (go_quiet (fail); try go_wp2)
      go_meet
      case rel => exact ⟨_, (decide (((rd_T51 l0 x3_2).f0) > 100000)), sd_, H', ⟨by have := HJ1.out; have := HK2.out; first | omega | exact Nat.le_refl _⟩, ⟨bb_ HB⟩⟩
     case rest =>
      clear HC8
      try clear c1; try clear p2; try clear q2; try clear hx2; try clear qi2; try clear c3; try clear c3b0; try clear c3b1; try clear c4; try clear c4b0; try clear c4b1; try clear c5; try clear c5b0; try clear c5b1; try clear c6; try clear p6; try clear c7; try clear c7b0; try clear c9; try clear c9b0; try clear c10; try clear c10b0; try clear c12; try clear c12b0; try clear c13; try clear c13b0; try clear c14; try clear c14b0; try clear c15; try clear c15b0; try clear hx266_0; try clear hx266_1; try clear hx266_2; try clear hx266_3; try clear hx266_4; try clear hx267_0; try clear hx267_1; try clear hx267_2; try clear hx267_3; try clear hx267_4; try clear hx268_0; try clear hx268_1; try clear hx268_2; try clear hx268_3; try clear hx268_4; try clear hx269_0; try clear hx269_1; try clear hx269_2; try clear hx269_3; try clear hx269_4; try clear hx270_0; try clear hx270_1; try clear hx270_2; try clear hx270_3; try clear hx270_4; try clear p2; try clear p266; try clear p267; try clear p268; try clear p269; try clear p270; try clear q2; try clear q266; try clear q267; try clear q268; try clear q269; try clear q270
      obtain ⟨kq, x50_7, rfl, HA, HJ7, HB⟩ := hcut
      cases kq with
      | zero => exact absurd HA.out (by simp [cohousingref05_Valid.j2])
      | succ kj7 =>
       have H := HA.out
       clear HA
       simp only [cohousingref05_Valid.j2] at H
       by_cases c16 : x50_7 = true
       ·subst c16
        have H1 : (some false) = some r := by rw [if_pos rfl] at H; exact H
        clear H
        have H := H1
        clear H1
        obtain rfl := Option.some.inj H
        go_wp2
        repeat (go_quiet (fail); try go_wp2)
        go_ret
        exact ⟨ew_, bb_ HB⟩
       replace c16 := Bool.eq_false_iff.mpr c16
       subst c16
       have H1 : (if 0 ≤ x3_2 then (if x3_2 < (l0.length : Int) then ((cohousingref01_Valid.f kj7 ((rd_T51 l0 x3_2).f1.f0) ((rd_T51 l0 x3_2).f1.f1)).bind fun t272 => ((cohousingref01_Valid.f kj7 ((rd_T51 l0 x3_2).f2.f0) ((rd_T51 l0 x3_2).f2.f1)).bind fun t274 => (if t272 = true then (if t274 = true then (if ((rd_T51 l0 x3_2).f1.f1) > 100 then (some false) else (if ((rd_T51 l0 x3_2).f2.f1) > 100 then (some false) else (if ((rd_T51 l0 x3_2).f2.f0) > 100000 then (some false) else (if ((rd_T51 l0 x3_2).f2.f0) < (-100000) then (some false) else (cohousingref05_Valid.l0 kj7 l0 (wrap64 (x3_2 + 1))))))) else (some false)) else (some false)))) else (none)) else (none)) = some r := by rw [if_neg (show ¬ (false = true) by decide)] at H; exact H
       clear H
       have H := H1
       clear H1
       by_cases c17 : 0 ≤ x3_2
       rotate_left
       ·rw [if_neg c17] at H
        exact absurd H (by simp)
       rw [if_pos c17] at H
       have c17b0 : decide (0 ≤ x3_2) = true := decide_eq_true c17
       clear c17
       by_cases c18 : x3_2 < (l0.length : Int)
       rotate_left
       ·rw [if_neg c18] at H
        exact absurd H (by simp)
       rw [if_pos c18] at H
       have c18b0 : decide (x3_2 < (l0.length : Int)) = true := decide_eq_true c18
       clear c18
       replace H := Option.bind_eq_some_iff.mp H
       obtain ⟨t272, A190, H⟩ := H
       replace H : ((cohousingref01_Valid.f kj7 ((rd_T51 l0 x3_2).f2.f0) ((rd_T51 l0 x3_2).f2.f1)).bind fun t274 => (if t272 = true then (if t274 = true then (if ((rd_T51 l0 x3_2).f1.f1) > 100 then (some false) else (if ((rd_T51 l0 x3_2).f2.f1) > 100 then (some false) else (if ((rd_T51 l0 x3_2).f2.f0) > 100000 then (some false) else (if ((rd_T51 l0 x3_2).f2.f0) < (-100000) then (some false) else (cohousingref05_Valid.l0 kj7 l0 (wrap64 (x3_2 + 1))))))) else (some false)) else (some false))) = some r := H
       have A19 := mk_ A190
       clear A190
       replace H := Option.bind_eq_some_iff.mp H
       obtain ⟨t274, A200, H⟩ := H
       replace H : (if t272 = true then (if t274 = true then (if ((rd_T51 l0 x3_2).f1.f1) > 100 then (some false) else (if ((rd_T51 l0 x3_2).f2.f1) > 100 then (some false) else (if ((rd_T51 l0 x3_2).f2.f0) > 100000 then (some false) else (if ((rd_T51 l0 x3_2).f2.f0) < (-100000) then (some false) else (cohousingref05_Valid.l0 kj7 l0 (wrap64 (x3_2 + 1))))))) else (some false)) else (some false)) = some r := H
       have A20 := mk_ A200
       clear A200
       by_cases c21 : t272 = true
       rotate_left
       ·replace c21 := Bool.eq_false_iff.mpr c21
        subst c21
        have H1 : (some false) = some r := by rw [if_neg (show ¬ (false = true) by decide)] at H; exact H
        clear H
        have H := H1
        clear H1
        obtain rfl := Option.some.inj H
        have p271 : 0 ≤ (x3_2 : Int) := od_
        have q271 : x3_2 < (l0.length : Int) := od_
        obtain ⟨ad271, e271, hx271_0, hx271_1, hx271_2, hx271_3, hx271_4⟩ := at_T51 HR0.out x3_2 p271 q271
        cases e271
        replace hx271_0 := cb_ HB hx271_0
        replace hx271_1 := cb_ HB hx271_1
        replace hx271_2 := cb_ HB hx271_2
        replace hx271_3 := cb_ HB hx271_3
        replace hx271_4 := cb_ HB hx271_4
        replace p271 := eq_true p271
        replace q271 := eq_true q271
        go_wp2_with (first | (go_at_call 30; (with_reducible refine (cohousingref01_Valid.calls kj7 ((rd_T51 l0 x3_2).f1.f0) ((rd_T51 l0 x3_2).f1.f1) false _ A19.out).mono ?_); rintro e w39 ⟨rfl, hb⟩; have n0_ := mk_ (below_step (bb_ HB) hb); clear HB; revert n0_; intro HB; (try clear hb); (try clear hb2); (try clear hk); (try clear hi); have p273 : 0 ≤ (x3_2 : Int) := od_; have q273 : x3_2 < (l0.length : Int) := od_; obtain ⟨ad273, e273, hx273_0, hx273_1, hx273_2, hx273_3, hx273_4⟩ := at_T51 HR0.out x3_2 p273 q273; obtain rfl : ad271 = ad273 := (by injection e273); replace hx273_0 := cb_ HB hx273_0; replace hx273_1 := cb_ HB hx273_1; replace hx273_2 := cb_ HB hx273_2; replace hx273_3 := cb_ HB hx273_3; replace hx273_4 := cb_ HB hx273_4; replace p273 := eq_true p273; replace q273 := eq_true q273) | (go_at_call 30; (with_reducible refine (cohousingref01_Valid.calls kj7 ((rd_T51 l0 x3_2).f2.f0) ((rd_T51 l0 x3_2).f2.f1) t274 _ A20.out).mono ?_); rintro e w40 ⟨rfl, hb⟩; have n0_ := mk_ (below_step (bb_ HB) hb); clear HB; revert n0_; intro HB; (try clear hb); (try clear hb2); (try clear hk); (try clear hi)))
        repeat (go_quiet (first | (go_at_call 30; (with_reducible refine (cohousingref01_Valid.calls kj7 ((rd_T51 l0 x3_2).f1.f0) ((rd_T51 l0 x3_2).f1.f1) false _ A19.out).mono ?_); rintro e w39 ⟨rfl, hb⟩; have n0_ := mk_ (below_step (bb_ HB) hb); clear HB; revert n0_; intro HB; (try clear hb); (try clear hb2); (try clear hk); (try clear hi); have p273 : 0 ≤ (x3_2 : Int) := od_; have q273 : x3_2 < (l0.length : Int) := od_; obtain ⟨ad273, e273, hx273_0, hx273_1, hx273_2, hx273_3, hx273_4⟩ := at_T51 HR0.out x3_2 p273 q273; obtain rfl : ad271 = ad273 := (by injection e273); replace hx273_0 := cb_ HB hx273_0; replace hx273_1 := cb_ HB hx273_1; replace hx273_2 := cb_ HB hx273_2; replace hx273_3 := cb_ HB hx273_3; replace hx273_4 := cb_ HB hx273_4; replace p273 := eq_true p273; replace q273 := eq_true q273) | (go_at_call 30; (with_reducible refine (cohousingref01_Valid.calls kj7 ((rd_T51 l0 x3_2).f2.f0) ((rd_T51 l0 x3_2).f2.f1) t274 _ A20.out).mono ?_); rintro e w40 ⟨rfl, hb⟩; have n0_ := mk_ (below_step (bb_ HB) hb); clear HB; revert n0_; intro HB; (try clear hb); (try clear hb2); (try clear hk); (try clear hi))); try go_wp2_with (first | (go_at_call 30; (with_reducible refine (cohousingref01_Valid.calls kj7 ((rd_T51 l0 x3_2).f1.f0) ((rd_T51 l0 x3_2).f1.f1) false _ A19.out).mono ?_); rintro e w39 ⟨rfl, hb⟩; have n0_ := mk_ (below_step (bb_ HB) hb); clear HB; revert n0_; intro HB; (try clear hb); (try clear hb2); (try clear hk); (try clear hi); have p273 : 0 ≤ (x3_2 : Int) := od_; have q273 : x3_2 < (l0.length : Int) := od_; obtain ⟨ad273, e273, hx273_0, hx273_1, hx273_2, hx273_3, hx273_4⟩ := at_T51 HR0.out x3_2 p273 q273; obtain rfl : ad271 = ad273 := (by injection e273); replace hx273_0 := cb_ HB hx273_0; replace hx273_1 := cb_ HB hx273_1; replace hx273_2 := cb_ HB hx273_2; replace hx273_3 := cb_ HB hx273_3; replace hx273_4 := cb_ HB hx273_4; replace p273 := eq_true p273; replace q273 := eq_true q273) | (go_at_call 30; (with_reducible refine (cohousingref01_Valid.calls kj7 ((rd_T51 l0 x3_2).f2.f0) ((rd_T51 l0 x3_2).f2.f1) t274 _ A20.out).mono ?_); rintro e w40 ⟨rfl, hb⟩; have n0_ := mk_ (below_step (bb_ HB) hb); clear HB; revert n0_; intro HB; (try clear hb); (try clear hb2); (try clear hk); (try clear hi))))
        go_ret
        exact ⟨ew_, bb_ HB⟩
       subst c21
       have H1 : (if t274 = true then (if ((rd_T51 l0 x3_2).f1.f1) > 100 then (some false) else (if ((rd_T51 l0 x3_2).f2.f1) > 100 then (some false) else (if ((rd_T51 l0 x3_2).f2.f0) > 100000 then (some false) else (if ((rd_T51 l0 x3_2).f2.f0) < (-100000) then (some false) else (cohousingref05_Valid.l0 kj7 l0 (wrap64 (x3_2 + 1))))))) else (some false)) = some r := by rw [if_pos rfl] at H; exact H
       clear H
       have H := H1
       clear H1
       by_cases c22 : t274 = true
       rotate_left
       ·replace c22 := Bool.eq_false_iff.mpr c22
        subst c22
        have H1 : (some false) = some r := by rw [if_neg (show ¬ (false = true) by decide)] at H; exact H
        clear H
        have H := H1
        clear H1
        obtain rfl := Option.some.inj H
        have p271 : 0 ≤ (x3_2 : Int) := od_
        have q271 : x3_2 < (l0.length : Int) := od_
        obtain ⟨ad271, e271, hx271_0, hx271_1, hx271_2, hx271_3, hx271_4⟩ := at_T51 HR0.out x3_2 p271 q271
        cases e271
        replace hx271_0 := cb_ HB hx271_0
        replace hx271_1 := cb_ HB hx271_1
        replace hx271_2 := cb_ HB hx271_2
        replace hx271_3 := cb_ HB hx271_3
        replace hx271_4 := cb_ HB hx271_4
        replace p271 := eq_true p271
        replace q271 := eq_true q271
        go_wp2_with (first | (go_at_call 30; (with_reducible refine (cohousingref01_Valid.calls kj7 ((rd_T51 l0 x3_2).f1.f0) ((rd_T51 l0 x3_2).f1.f1) true _ A19.out).mono ?_); rintro e w37 ⟨rfl, hb⟩; have n0_ := mk_ (below_step (bb_ HB) hb); clear HB; revert n0_; intro HB; (try clear hb); (try clear hb2); (try clear hk); (try clear hi); have p273 : 0 ≤ (x3_2 : Int) := od_; have q273 : x3_2 < (l0.length : Int) := od_; obtain ⟨ad273, e273, hx273_0, hx273_1, hx273_2, hx273_3, hx273_4⟩ := at_T51 HR0.out x3_2 p273 q273; obtain rfl : ad271 = ad273 := (by injection e273); replace hx273_0 := cb_ HB hx273_0; replace hx273_1 := cb_ HB hx273_1; replace hx273_2 := cb_ HB hx273_2; replace hx273_3 := cb_ HB hx273_3; replace hx273_4 := cb_ HB hx273_4; replace p273 := eq_true p273; replace q273 := eq_true q273) | (go_at_call 30; (with_reducible refine (cohousingref01_Valid.calls kj7 ((rd_T51 l0 x3_2).f2.f0) ((rd_T51 l0 x3_2).f2.f1) false _ A20.out).mono ?_); rintro e w38 ⟨rfl, hb⟩; have n0_ := mk_ (below_step (bb_ HB) hb); clear HB; revert n0_; intro HB; (try clear hb); (try clear hb2); (try clear hk); (try clear hi)))
        repeat (go_quiet (first | (go_at_call 30; (with_reducible refine (cohousingref01_Valid.calls kj7 ((rd_T51 l0 x3_2).f1.f0) ((rd_T51 l0 x3_2).f1.f1) true _ A19.out).mono ?_); rintro e w37 ⟨rfl, hb⟩; have n0_ := mk_ (below_step (bb_ HB) hb); clear HB; revert n0_; intro HB; (try clear hb); (try clear hb2); (try clear hk); (try clear hi); have p273 : 0 ≤ (x3_2 : Int) := od_; have q273 : x3_2 < (l0.length : Int) := od_; obtain ⟨ad273, e273, hx273_0, hx273_1, hx273_2, hx273_3, hx273_4⟩ := at_T51 HR0.out x3_2 p273 q273; obtain rfl : ad271 = ad273 := (by injection e273); replace hx273_0 := cb_ HB hx273_0; replace hx273_1 := cb_ HB hx273_1; replace hx273_2 := cb_ HB hx273_2; replace hx273_3 := cb_ HB hx273_3; replace hx273_4 := cb_ HB hx273_4; replace p273 := eq_true p273; replace q273 := eq_true q273) | (go_at_call 30; (with_reducible refine (cohousingref01_Valid.calls kj7 ((rd_T51 l0 x3_2).f2.f0) ((rd_T51 l0 x3_2).f2.f1) false _ A20.out).mono ?_); rintro e w38 ⟨rfl, hb⟩; have n0_ := mk_ (below_step (bb_ HB) hb); clear HB; revert n0_; intro HB; (try clear hb); (try clear hb2); (try clear hk); (try clear hi))); try go_wp2_with (first | (go_at_call 30; (with_reducible refine (cohousingref01_Valid.calls kj7 ((rd_T51 l0 x3_2).f1.f0) ((rd_T51 l0 x3_2).f1.f1) true _ A19.out).mono ?_); rintro e w37 ⟨rfl, hb⟩; have n0_ := mk_ (below_step (bb_ HB) hb); clear HB; revert n0_; intro HB; (try clear hb); (try clear hb2); (try clear hk); (try clear hi); have p273 : 0 ≤ (x3_2 : Int) := od_; have q273 : x3_2 < (l0.length : Int) := od_; obtain ⟨ad273, e273, hx273_0, hx273_1, hx273_2, hx273_3, hx273_4⟩ := at_T51 HR0.out x3_2 p273 q273; obtain rfl : ad271 = ad273 := (by injection e273); replace hx273_0 := cb_ HB hx273_0; replace hx273_1 := cb_ HB hx273_1; replace hx273_2 := cb_ HB hx273_2; replace hx273_3 := cb_ HB hx273_3; replace hx273_4 := cb_ HB hx273_4; replace p273 := eq_true p273; replace q273 := eq_true q273) | (go_at_call 30; (with_reducible refine (cohousingref01_Valid.calls kj7 ((rd_T51 l0 x3_2).f2.f0) ((rd_T51 l0 x3_2).f2.f1) false _ A20.out).mono ?_); rintro e w38 ⟨rfl, hb⟩; have n0_ := mk_ (below_step (bb_ HB) hb); clear HB; revert n0_; intro HB; (try clear hb); (try clear hb2); (try clear hk); (try clear hi))))
        go_ret
        exact ⟨ew_, bb_ HB⟩
       subst c22
       have H1 : (if ((rd_T51 l0 x3_2).f1.f1) > 100 then (some false) else (if ((rd_T51 l0 x3_2).f2.f1) > 100 then (some false) else (if ((rd_T51 l0 x3_2).f2.f0) > 100000 then (some false) else (if ((rd_T51 l0 x3_2).f2.f0) < (-100000) then (some false) else (cohousingref05_Valid.l0 kj7 l0 (wrap64 (x3_2 + 1))))))) = some r := by rw [if_pos rfl] at H; exact H
       clear H
       have H := H1
       clear H1
       by_cases c23 : ((rd_T51 l0 x3_2).f1.f1) > 100
       ·rw [if_pos c23] at H
        have c23b0 : decide (100 < ((rd_T51 l0 x3_2).f1.f1)) = true := decide_eq_true c23
        clear c23
        obtain rfl := Option.some.inj H
        have p271 : 0 ≤ (x3_2 : Int) := od_
        have q271 : x3_2 < (l0.length : Int) := od_
        obtain ⟨ad271, e271, hx271_0, hx271_1, hx271_2, hx271_3, hx271_4⟩ := at_T51 HR0.out x3_2 p271 q271
        cases e271
        replace hx271_0 := cb_ HB hx271_0
        replace hx271_1 := cb_ HB hx271_1
        replace hx271_2 := cb_ HB hx271_2
        replace hx271_3 := cb_ HB hx271_3
        replace hx271_4 := cb_ HB hx271_4
        replace p271 := eq_true p271
        replace q271 := eq_true q271
        go_wp2_with (first | (go_at_call 30; (with_reducible refine (cohousingref01_Valid.calls kj7 ((rd_T51 l0 x3_2).f1.f0) ((rd_T51 l0 x3_2).f1.f1) true _ A19.out).mono ?_); rintro e w24 ⟨rfl, hb⟩; have n0_ := mk_ (below_step (bb_ HB) hb); clear HB; revert n0_; intro HB; (try clear hb); (try clear hb2); (try clear hk); (try clear hi); have p273 : 0 ≤ (x3_2 : Int) := od_; have q273 : x3_2 < (l0.length : Int) := od_; obtain ⟨ad273, e273, hx273_0, hx273_1, hx273_2, hx273_3, hx273_4⟩ := at_T51 HR0.out x3_2 p273 q273; obtain rfl : ad271 = ad273 := (by injection e273); replace hx273_0 := cb_ HB hx273_0; replace hx273_1 := cb_ HB hx273_1; replace hx273_2 := cb_ HB hx273_2; replace hx273_3 := cb_ HB hx273_3; replace hx273_4 := cb_ HB hx273_4; replace p273 := eq_true p273; replace q273 := eq_true q273) | (go_at_call 30; (with_reducible refine (cohousingref01_Valid.calls kj7 ((rd_T51 l0 x3_2).f2.f0) ((rd_T51 l0 x3_2).f2.f1) true _ A20.out).mono ?_); rintro e w25 ⟨rfl, hb⟩; have n0_ := mk_ (below_step (bb_ HB) hb); clear HB; revert n0_; intro HB; (try clear hb); (try clear hb2); (try clear hk); (try clear hi); have p275 : 0 ≤ (x3_2 : Int) := od_; have q275 : x3_2 < (l0.length : Int) := od_; obtain ⟨ad275, e275, hx275_0, hx275_1, hx275_2, hx275_3, hx275_4⟩ := at_T51 HR0.out x3_2 p275 q275; obtain rfl : ad271 = ad275 := (by injection e275); replace hx275_0 := cb_ HB hx275_0; replace hx275_1 := cb_ HB hx275_1; replace hx275_2 := cb_ HB hx275_2; replace hx275_3 := cb_ HB hx275_3; replace hx275_4 := cb_ HB hx275_4; replace p275 := eq_true p275; replace q275 := eq_true q275))
        repeat (go_quiet (first | (go_at_call 30; (with_reducible refine (cohousingref01_Valid.calls kj7 ((rd_T51 l0 x3_2).f1.f0) ((rd_T51 l0 x3_2).f1.f1) true _ A19.out).mono ?_); rintro e w24 ⟨rfl, hb⟩; have n0_ := mk_ (below_step (bb_ HB) hb); clear HB; revert n0_; intro HB; (try clear hb); (try clear hb2); (try clear hk); (try clear hi); have p273 : 0 ≤ (x3_2 : Int) := od_; have q273 : x3_2 < (l0.length : Int) := od_; obtain ⟨ad273, e273, hx273_0, hx273_1, hx273_2, hx273_3, hx273_4⟩ := at_T51 HR0.out x3_2 p273 q273; obtain rfl : ad271 = ad273 := (by injection e273); replace hx273_0 := cb_ HB hx273_0; replace hx273_1 := cb_ HB hx273_1; replace hx273_2 := cb_ HB hx273_2; replace hx273_3 := cb_ HB hx273_3; replace hx273_4 := cb_ HB hx273_4; replace p273 := eq_true p273; replace q273 := eq_true q273) | (go_at_call 30; (with_reducible refine (cohousingref01_Valid.calls kj7 ((rd_T51 l0 x3_2).f2.f0) ((rd_T51 l0 x3_2).f2.f1) true _ A20.out).mono ?_); rintro e w25 ⟨rfl, hb⟩; have n0_ := mk_ (below_step (bb_ HB) hb); clear HB; revert n0_; intro HB; (try clear hb); (try clear hb2); (try clear hk); (try clear hi); have p275 : 0 ≤ (x3_2 : Int) := od_; have q275 : x3_2 < (l0.length : Int) := od_; obtain ⟨ad275, e275, hx275_0, hx275_1, hx275_2, hx275_3, hx275_4⟩ := at_T51 HR0.out x3_2 p275 q275; obtain rfl : ad271 = ad275 := (by injection e275); replace hx275_0 := cb_ HB hx275_0; replace hx275_1 := cb_ HB hx275_1; replace hx275_2 := cb_ HB hx275_2; replace hx275_3 := cb_ HB hx275_3; replace hx275_4 := cb_ HB hx275_4; replace p275 := eq_true p275; replace q275 := eq_true q275)); try go_wp2_with (first | (go_at_call 30; (with_reducible refine (cohousingref01_Valid.calls kj7 ((rd_T51 l0 x3_2).f1.f0) ((rd_T51 l0 x3_2).f1.f1) true _ A19.out).mono ?_); rintro e w24 ⟨rfl, hb⟩; have n0_ := mk_ (below_step (bb_ HB) hb); clear HB; revert n0_; intro HB; (try clear hb); (try clear hb2); (try clear hk); (try clear hi); have p273 : 0 ≤ (x3_2 : Int) := od_; have q273 : x3_2 < (l0.length : Int) := od_; obtain ⟨ad273, e273, hx273_0, hx273_1, hx273_2, hx273_3, hx273_4⟩ := at_T51 HR0.out x3_2 p273 q273; obtain rfl : ad271 = ad273 := (by injection e273); replace hx273_0 := cb_ HB hx273_0; replace hx273_1 := cb_ HB hx273_1; replace hx273_2 := cb_ HB hx273_2; replace hx273_3 := cb_ HB hx273_3; replace hx273_4 := cb_ HB hx273_4; replace p273 := eq_true p273; replace q273 := eq_true q273) | (go_at_call 30; (with_reducible refine (cohousingref01_Valid.calls kj7 ((rd_T51 l0 x3_2).f2.f0) ((rd_T51 l0 x3_2).f2.f1) true _ A20.out).mono ?_); rintro e w25 ⟨rfl, hb⟩; have n0_ := mk_ (below_step (bb_ HB) hb); clear HB; revert n0_; intro HB; (try clear hb); (try clear hb2); (try clear hk); (try clear hi); have p275 : 0 ≤ (x3_2 : Int) := od_; have q275 : x3_2 < (l0.length : Int) := od_; obtain ⟨ad275, e275, hx275_0, hx275_1, hx275_2, hx275_3, hx275_4⟩ := at_T51 HR0.out x3_2 p275 q275; obtain rfl : ad271 = ad275 := (by injection e275); replace hx275_0 := cb_ HB hx275_0; replace hx275_1 := cb_ HB hx275_1; replace hx275_2 := cb_ HB hx275_2; replace hx275_3 := cb_ HB hx275_3; replace hx275_4 := cb_ HB hx275_4; replace p275 := eq_true p275; replace q275 := eq_true q275)))
        go_ret
        exact ⟨ew_, bb_ HB⟩
       rw [if_neg c23] at H
       have c23b0 : decide (100 < ((rd_T51 l0 x3_2).f1.f1)) = false := decide_eq_false c23
       clear c23
       by_cases c26 : ((rd_T51 l0 x3_2).f2.f1) > 100
       ·rw [if_pos c26] at H
        have c26b0 : decide (100 < ((rd_T51 l0 x3_2).f2.f1)) = true := decide_eq_true c26
        clear c26
        obtain rfl := Option.some.inj H
        have p271 : 0 ≤ (x3_2 : Int) := od_
        have q271 : x3_2 < (l0.length : Int) := od_
        obtain ⟨ad271, e271, hx271_0, hx271_1, hx271_2, hx271_3, hx271_4⟩ := at_T51 HR0.out x3_2 p271 q271
        cases e271
        replace hx271_0 := cb_ HB hx271_0
        replace hx271_1 := cb_ HB hx271_1
        replace hx271_2 := cb_ HB hx271_2
        replace hx271_3 := cb_ HB hx271_3
        replace hx271_4 := cb_ HB hx271_4
        replace p271 := eq_true p271
        replace q271 := eq_true q271
        go_wp2_with (first | (go_at_call 30; (with_reducible refine (cohousingref01_Valid.calls kj7 ((rd_T51 l0 x3_2).f1.f0) ((rd_T51 l0 x3_2).f1.f1) true _ A19.out).mono ?_); rintro e w27 ⟨rfl, hb⟩; have n0_ := mk_ (below_step (bb_ HB) hb); clear HB; revert n0_; intro HB; (try clear hb); (try clear hb2); (try clear hk); (try clear hi); have p273 : 0 ≤ (x3_2 : Int) := od_; have q273 : x3_2 < (l0.length : Int) := od_; obtain ⟨ad273, e273, hx273_0, hx273_1, hx273_2, hx273_3, hx273_4⟩ := at_T51 HR0.out x3_2 p273 q273; obtain rfl : ad271 = ad273 := (by injection e273); replace hx273_0 := cb_ HB hx273_0; replace hx273_1 := cb_ HB hx273_1; replace hx273_2 := cb_ HB hx273_2; replace hx273_3 := cb_ HB hx273_3; replace hx273_4 := cb_ HB hx273_4; replace p273 := eq_true p273; replace q273 := eq_true q273) | (go_at_call 30; (with_reducible refine (cohousingref01_Valid.calls kj7 ((rd_T51 l0 x3_2).f2.f0) ((rd_T51 l0 x3_2).f2.f1) true _ A20.out).mono ?_); rintro e w28 ⟨rfl, hb⟩; have n0_ := mk_ (below_step (bb_ HB) hb); clear HB; revert n0_; intro HB; (try clear hb); (try clear hb2); (try clear hk); (try clear hi); have p275 : 0 ≤ (x3_2 : Int) := od_; have q275 : x3_2 < (l0.length : Int) := od_; obtain ⟨ad275, e275, hx275_0, hx275_1, hx275_2, hx275_3, hx275_4⟩ := at_T51 HR0.out x3_2 p275 q275; obtain rfl : ad271 = ad275 := (by injection e275); replace hx275_0 := cb_ HB hx275_0; replace hx275_1 := cb_ HB hx275_1; replace hx275_2 := cb_ HB hx275_2; replace hx275_3 := cb_ HB hx275_3; replace hx275_4 := cb_ HB hx275_4; replace p275 := eq_true p275; replace q275 := eq_true q275; have p276 : 0 ≤ (x3_2 : Int) := od_; have q276 : x3_2 < (l0.length : Int) := od_; obtain ⟨ad276, e276, hx276_0, hx276_1, hx276_2, hx276_3, hx276_4⟩ := at_T51 HR0.out x3_2 p276 q276; obtain rfl : ad271 = ad276 := (by injection e276); replace hx276_0 := cb_ HB hx276_0; replace hx276_1 := cb_ HB hx276_1; replace hx276_2 := cb_ HB hx276_2; replace hx276_3 := cb_ HB hx276_3; replace hx276_4 := cb_ HB hx276_4; replace p276 := eq_true p276; replace q276 := eq_true q276))
        repeat (go_quiet (first | (go_at_call 30; (with_reducible refine (cohousingref01_Valid.calls kj7 ((rd_T51 l0 x3_2).f1.f0) ((rd_T51 l0 x3_2).f1.f1) true _ A19.out).mono ?_); rintro e w27 ⟨rfl, hb⟩; have n0_ := mk_ (below_step (bb_ HB) hb); clear HB; revert n0_; intro HB; (try clear hb); (try clear hb2); (try clear hk); (try clear hi); have p273 : 0 ≤ (x3_2 : Int) := od_; have q273 : x3_2 < (l0.length : Int) := od_; obtain ⟨ad273, e273, hx273_0, hx273_1, hx273_2, hx273_3, hx273_4⟩ := at_T51 HR0.out x3_2 p273 q273; obtain rfl : ad271 = ad273 := (by injection e273); replace hx273_0 := cb_ HB hx273_0; replace hx273_1 := cb_ HB hx273_1; replace hx273_2 := cb_ HB hx273_2; replace hx273_3 := cb_ HB hx273_3; replace hx273_4 := cb_ HB hx273_4; replace p273 := eq_true p273; replace q273 := eq_true q273) | (go_at_call 30; (with_reducible refine (cohousingref01_Valid.calls kj7 ((rd_T51 l0 x3_2).f2.f0) ((rd_T51 l0 x3_2).f2.f1) true _ A20.out).mono ?_); rintro e w28 ⟨rfl, hb⟩; have n0_ := mk_ (below_step (bb_ HB) hb); clear HB; revert n0_; intro HB; (try clear hb); (try clear hb2); (try clear hk); (try clear hi); have p275 : 0 ≤ (x3_2 : Int) := od_; have q275 : x3_2 < (l0.length : Int) := od_; obtain ⟨ad275, e275, hx275_0, hx275_1, hx275_2, hx275_3, hx275_4⟩ := at_T51 HR0.out x3_2 p275 q275; obtain rfl : ad271 = ad275 := (by injection e275); replace hx275_0 := cb_ HB hx275_0; replace hx275_1 := cb_ HB hx275_1; replace hx275_2 := cb_ HB hx275_2; replace hx275_3 := cb_ HB hx275_3; replace hx275_4 := cb_ HB hx275_4; replace p275 := eq_true p275; replace q275 := eq_true q275; have p276 : 0 ≤ (x3_2 : Int) := od_; have q276 : x3_2 < (l0.length : Int) := od_; obtain ⟨ad276, e276, hx276_0, hx276_1, hx276_2, hx276_3, hx276_4⟩ := at_T51 HR0.out x3_2 p276 q276; obtain rfl : ad271 = ad276 := (by injection e276); replace hx276_0 := cb_ HB hx276_0; replace hx276_1 := cb_ HB hx276_1; replace hx276_2 := cb_ HB hx276_2; replace hx276_3 := cb_ HB hx276_3; replace hx276_4 := cb_ HB hx276_4; replace p276 := eq_true p276; replace q276 := eq_true q276)); try go_wp2_with (first | (go_at_call 30; (with_reducible refine (cohousingref01_Valid.calls kj7 ((rd_T51 l0 x3_2).f1.f0) ((rd_T51 l0 x3_2).f1.f1) true _ A19.out).mono ?_); rintro e w27 ⟨rfl, hb⟩; have n0_ := mk_ (below_step (bb_ HB) hb); clear HB; revert n0_; intro HB; (try clear hb); (try clear hb2); (try clear hk); (try clear hi); have p273 : 0 ≤ (x3_2 : Int) := od_; have q273 : x3_2 < (l0.length : Int) := od_; obtain ⟨ad273, e273, hx273_0, hx273_1, hx273_2, hx273_3, hx273_4⟩ := at_T51 HR0.out x3_2 p273 q273; obtain rfl : ad271 = ad273 := (by injection e273); replace hx273_0 := cb_ HB hx273_0; replace hx273_1 := cb_ HB hx273_1; replace hx273_2 := cb_ HB hx273_2; replace hx273_3 := cb_ HB hx273_3; replace hx273_4 := cb_ HB hx273_4; replace p273 := eq_true p273; replace q273 := eq_true q273) | (go_at_call 30; (with_reducible refine (cohousingref01_Valid.calls kj7 ((rd_T51 l0 x3_2).f2.f0) ((rd_T51 l0 x3_2).f2.f1) true _ A20.out).mono ?_); rintro e w28 ⟨rfl, hb⟩; have n0_ := mk_ (below_step (bb_ HB) hb); clear HB; revert n0_; intro HB; (try clear hb); (try clear hb2); (try clear hk); (try clear hi); have p275 : 0 ≤ (x3_2 : Int) := od_; have q275 : x3_2 < (l0.length : Int) := od_; obtain ⟨ad275, e275, hx275_0, hx275_1, hx275_2, hx275_3, hx275_4⟩ := at_T51 HR0.out x3_2 p275 q275; obtain rfl : ad271 = ad275 := (by injection e275); replace hx275_0 := cb_ HB hx275_0; replace hx275_1 := cb_ HB hx275_1; replace hx275_2 := cb_ HB hx275_2; replace hx275_3 := cb_ HB hx275_3; replace hx275_4 := cb_ HB hx275_4; replace p275 := eq_true p275; replace q275 := eq_true q275; have p276 : 0 ≤ (x3_2 : Int) := od_; have q276 : x3_2 < (l0.length : Int) := od_; obtain ⟨ad276, e276, hx276_0, hx276_1, hx276_2, hx276_3, hx276_4⟩ := at_T51 HR0.out x3_2 p276 q276; obtain rfl : ad271 = ad276 := (by injection e276); replace hx276_0 := cb_ HB hx276_0; replace hx276_1 := cb_ HB hx276_1; replace hx276_2 := cb_ HB hx276_2; replace hx276_3 := cb_ HB hx276_3; replace hx276_4 := cb_ HB hx276_4; replace p276 := eq_true p276; replace q276 := eq_true q276)))
        go_ret
        exact ⟨ew_, bb_ HB⟩
       rw [if_neg c26] at H
       have c26b0 : decide (100 < ((rd_T51 l0 x3_2).f2.f1)) = false := decide_eq_false c26
       clear c26
       by_cases c29 : ((rd_T51 l0 x3_2).f2.f0) > 100000
       ·rw [if_pos c29] at H
        have c29b0 : decide (100000 < ((rd_T51 l0 x3_2).f2.f0)) = true := decide_eq_true c29
        clear c29
        obtain rfl := Option.some.inj H
        have p271 : 0 ≤ (x3_2 : Int) := od_
        have q271 : x3_2 < (l0.length : Int) := od_
        obtain ⟨ad271, e271, hx271_0, hx271_1, hx271_2, hx271_3, hx271_4⟩ := at_T51 HR0.out x3_2 p271 q271
        cases e271
        replace hx271_0 := cb_ HB hx271_0
        replace hx271_1 := cb_ HB hx271_1
        replace hx271_2 := cb_ HB hx271_2
        replace hx271_3 := cb_ HB hx271_3
        replace hx271_4 := cb_ HB hx271_4
        replace p271 := eq_true p271
        replace q271 := eq_true q271
        go_wp2_with (first | (go_at_call 30; (with_reducible refine (cohousingref01_Valid.calls kj7 ((rd_T51 l0 x3_2).f1.f0) ((rd_T51 l0 x3_2).f1.f1) true _ A19.out).mono ?_); rintro e w30 ⟨rfl, hb⟩; have n0_ := mk_ (below_step (bb_ HB) hb); clear HB; revert n0_; intro HB; (try clear hb); (try clear hb2); (try clear hk); (try clear hi); have p273 : 0 ≤ (x3_2 : Int) := od_; have q273 : x3_2 < (l0.length : Int) := od_; obtain ⟨ad273, e273, hx273_0, hx273_1, hx273_2, hx273_3, hx273_4⟩ := at_T51 HR0.out x3_2 p273 q273; obtain rfl : ad271 = ad273 := (by injection e273); replace hx273_0 := cb_ HB hx273_0; replace hx273_1 := cb_ HB hx273_1; replace hx273_2 := cb_ HB hx273_2; replace hx273_3 := cb_ HB hx273_3; replace hx273_4 := cb_ HB hx273_4; replace p273 := eq_true p273; replace q273 := eq_true q273) | (go_at_call 30; (with_reducible refine (cohousingref01_Valid.calls kj7 ((rd_T51 l0 x3_2).f2.f0) ((rd_T51 l0 x3_2).f2.f1) true _ A20.out).mono ?_); rintro e w31 ⟨rfl, hb⟩; have n0_ := mk_ (below_step (bb_ HB) hb); clear HB; revert n0_; intro HB; (try clear hb); (try clear hb2); (try clear hk); (try clear hi); have p275 : 0 ≤ (x3_2 : Int) := od_; have q275 : x3_2 < (l0.length : Int) := od_; obtain ⟨ad275, e275, hx275_0, hx275_1, hx275_2, hx275_3, hx275_4⟩ := at_T51 HR0.out x3_2 p275 q275; obtain rfl : ad271 = ad275 := (by injection e275); replace hx275_0 := cb_ HB hx275_0; replace hx275_1 := cb_ HB hx275_1; replace hx275_2 := cb_ HB hx275_2; replace hx275_3 := cb_ HB hx275_3; replace hx275_4 := cb_ HB hx275_4; replace p275 := eq_true p275; replace q275 := eq_true q275; have p276 : 0 ≤ (x3_2 : Int) := od_; have q276 : x3_2 < (l0.length : Int) := od_; obtain ⟨ad276, e276, hx276_0, hx276_1, hx276_2, hx276_3, hx276_4⟩ := at_T51 HR0.out x3_2 p276 q276; obtain rfl : ad271 = ad276 := (by injection e276); replace hx276_0 := cb_ HB hx276_0; replace hx276_1 := cb_ HB hx276_1; replace hx276_2 := cb_ HB hx276_2; replace hx276_3 := cb_ HB hx276_3; replace hx276_4 := cb_ HB hx276_4; replace p276 := eq_true p276; replace q276 := eq_true q276; have p277 : 0 ≤ (x3_2 : Int) := od_; have q277 : x3_2 < (l0.length : Int) := od_; obtain ⟨ad277, e277, hx277_0, hx277_1, hx277_2, hx277_3, hx277_4⟩ := at_T51 HR0.out x3_2 p277 q277; obtain rfl : ad271 = ad277 := (by injection e277); replace hx277_0 := cb_ HB hx277_0; replace hx277_1 := cb_ HB hx277_1; replace hx277_2 := cb_ HB hx277_2; replace hx277_3 := cb_ HB hx277_3; replace hx277_4 := cb_ HB hx277_4; replace p277 := eq_true p277; replace q277 := eq_true q277))
        repeat (go_quiet (first | (go_at_call 30; (with_reducible refine (cohousingref01_Valid.calls kj7 ((rd_T51 l0 x3_2).f1.f0) ((rd_T51 l0 x3_2).f1.f1) true _ A19.out).mono ?_); rintro e w30 ⟨rfl, hb⟩; have n0_ := mk_ (below_step (bb_ HB) hb); clear HB; revert n0_; intro HB; (try clear hb); (try clear hb2); (try clear hk); (try clear hi); have p273 : 0 ≤ (x3_2 : Int) := od_; have q273 : x3_2 < (l0.length : Int) := od_; obtain ⟨ad273, e273, hx273_0, hx273_1, hx273_2, hx273_3, hx273_4⟩ := at_T51 HR0.out x3_2 p273 q273; obtain rfl : ad271 = ad273 := (by injection e273); replace hx273_0 := cb_ HB hx273_0; replace hx273_1 := cb_ HB hx273_1; replace hx273_2 := cb_ HB hx273_2; replace hx273_3 := cb_ HB hx273_3; replace hx273_4 := cb_ HB hx273_4; replace p273 := eq_true p273; replace q273 := eq_true q273) | (go_at_call 30; (with_reducible refine (cohousingref01_Valid.calls kj7 ((rd_T51 l0 x3_2).f2.f0) ((rd_T51 l0 x3_2).f2.f1) true _ A20.out).mono ?_); rintro e w31 ⟨rfl, hb⟩; have n0_ := mk_ (below_step (bb_ HB) hb); clear HB; revert n0_; intro HB; (try clear hb); (try clear hb2); (try clear hk); (try clear hi); have p275 : 0 ≤ (x3_2 : Int) := od_; have q275 : x3_2 < (l0.length : Int) := od_; obtain ⟨ad275, e275, hx275_0, hx275_1, hx275_2, hx275_3, hx275_4⟩ := at_T51 HR0.out x3_2 p275 q275; obtain rfl : ad271 = ad275 := (by injection e275); replace hx275_0 := cb_ HB hx275_0; replace hx275_1 := cb_ HB hx275_1; replace hx275_2 := cb_ HB hx275_2; replace hx275_3 := cb_ HB hx275_3; replace hx275_4 := cb_ HB hx275_4; replace p275 := eq_true p275; replace q275 := eq_true q275; have p276 : 0 ≤ (x3_2 : Int) := od_; have q276 : x3_2 < (l0.length : Int) := od_; obtain ⟨ad276, e276, hx276_0, hx276_1, hx276_2, hx276_3, hx276_4⟩ := at_T51 HR0.out x3_2 p276 q276; obtain rfl : ad271 = ad276 := (by injection e276); replace hx276_0 := cb_ HB hx276_0; replace hx276_1 := cb_ HB hx276_1; replace hx276_2 := cb_ HB hx276_2; replace hx276_3 := cb_ HB hx276_3; replace hx276_4 := cb_ HB hx276_4; replace p276 := eq_true p276; replace q276 := eq_true q276; have p277 : 0 ≤ (x3_2 : Int) := od_; have q277 : x3_2 < (l0.length : Int) := od_; obtain ⟨ad277, e277, hx277_0, hx277_1, hx277_2, hx277_3, hx277_4⟩ := at_T51 HR0.out x3_2 p277 q277; obtain rfl : ad271 = ad277 := (by injection e277); replace hx277_0 := cb_ HB hx277_0; replace hx277_1 := cb_ HB hx277_1; replace hx277_2 := cb_ HB hx277_2; replace hx277_3 := cb_ HB hx277_3; replace hx277_4 := cb_ HB hx277_4; replace p277 := eq_true p277; replace q277 := eq_true q277)); try go_wp2_with (first | (go_at_call 30; (with_reducible refine (cohousingref01_Valid.calls kj7 ((rd_T51 l0 x3_2).f1.f0) ((rd_T51 l0 x3_2).f1.f1) true _ A19.out).mono ?_); rintro e w30 ⟨rfl, hb⟩; have n0_ := mk_ (below_step (bb_ HB) hb); clear HB; revert n0_; intro HB; (try clear hb); (try clear hb2); (try clear hk); (try clear hi); have p273 : 0 ≤ (x3_2 : Int) := od_; have q273 : x3_2 < (l0.length : Int) := od_; obtain ⟨ad273, e273, hx273_0, hx273_1, hx273_2, hx273_3, hx273_4⟩ := at_T51 HR0.out x3_2 p273 q273; obtain rfl : ad271 = ad273 := (by injection e273); replace hx273_0 := cb_ HB hx273_0; replace hx273_1 := cb_ HB hx273_1; replace hx273_2 := cb_ HB hx273_2; replace hx273_3 := cb_ HB hx273_3; replace hx273_4 := cb_ HB hx273_4; replace p273 := eq_true p273; replace q273 := eq_true q273) | (go_at_call 30; (with_reducible refine (cohousingref01_Valid.calls kj7 ((rd_T51 l0 x3_2).f2.f0) ((rd_T51 l0 x3_2).f2.f1) true _ A20.out).mono ?_); rintro e w31 ⟨rfl, hb⟩; have n0_ := mk_ (below_step (bb_ HB) hb); clear HB; revert n0_; intro HB; (try clear hb); (try clear hb2); (try clear hk); (try clear hi); have p275 : 0 ≤ (x3_2 : Int) := od_; have q275 : x3_2 < (l0.length : Int) := od_; obtain ⟨ad275, e275, hx275_0, hx275_1, hx275_2, hx275_3, hx275_4⟩ := at_T51 HR0.out x3_2 p275 q275; obtain rfl : ad271 = ad275 := (by injection e275); replace hx275_0 := cb_ HB hx275_0; replace hx275_1 := cb_ HB hx275_1; replace hx275_2 := cb_ HB hx275_2; replace hx275_3 := cb_ HB hx275_3; replace hx275_4 := cb_ HB hx275_4; replace p275 := eq_true p275; replace q275 := eq_true q275; have p276 : 0 ≤ (x3_2 : Int) := od_; have q276 : x3_2 < (l0.length : Int) := od_; obtain ⟨ad276, e276, hx276_0, hx276_1, hx276_2, hx276_3, hx276_4⟩ := at_T51 HR0.out x3_2 p276 q276; obtain rfl : ad271 = ad276 := (by injection e276); replace hx276_0 := cb_ HB hx276_0; replace hx276_1 := cb_ HB hx276_1; replace hx276_2 := cb_ HB hx276_2; replace hx276_3 := cb_ HB hx276_3; replace hx276_4 := cb_ HB hx276_4; replace p276 := eq_true p276; replace q276 := eq_true q276; have p277 : 0 ≤ (x3_2 : Int) := od_; have q277 : x3_2 < (l0.length : Int) := od_; obtain ⟨ad277, e277, hx277_0, hx277_1, hx277_2, hx277_3, hx277_4⟩ := at_T51 HR0.out x3_2 p277 q277; obtain rfl : ad271 = ad277 := (by injection e277); replace hx277_0 := cb_ HB hx277_0; replace hx277_1 := cb_ HB hx277_1; replace hx277_2 := cb_ HB hx277_2; replace hx277_3 := cb_ HB hx277_3; replace hx277_4 := cb_ HB hx277_4; replace p277 := eq_true p277; replace q277 := eq_true q277)))
        go_ret
        exact ⟨ew_, bb_ HB⟩
       rw [if_neg c29] at H
       have c29b0 : decide (100000 < ((rd_T51 l0 x3_2).f2.f0)) = false := decide_eq_false c29
       clear c29
       by_cases c32 : ((rd_T51 l0 x3_2).f2.f0) < (-100000)
       ·rw [if_pos c32] at H
        have c32b0 : decide (((rd_T51 l0 x3_2).f2.f0) < (-100000)) = true := decide_eq_true c32
        clear c32
        obtain rfl := Option.some.inj H
        have p271 : 0 ≤ (x3_2 : Int) := od_
        have q271 : x3_2 < (l0.length : Int) := od_
        obtain ⟨ad271, e271, hx271_0, hx271_1, hx271_2, hx271_3, hx271_4⟩ := at_T51 HR0.out x3_2 p271 q271
        cases e271
        replace hx271_0 := cb_ HB hx271_0
        replace hx271_1 := cb_ HB hx271_1
        replace hx271_2 := cb_ HB hx271_2
        replace hx271_3 := cb_ HB hx271_3
        replace hx271_4 := cb_ HB hx271_4
        replace p271 := eq_true p271
        replace q271 := eq_true q271
        go_wp2_with (first | (go_at_call 30; (with_reducible refine (cohousingref01_Valid.calls kj7 ((rd_T51 l0 x3_2).f1.f0) ((rd_T51 l0 x3_2).f1.f1) true _ A19.out).mono ?_); rintro e w33 ⟨rfl, hb⟩; have n0_ := mk_ (below_step (bb_ HB) hb); clear HB; revert n0_; intro HB; (try clear hb); (try clear hb2); (try clear hk); (try clear hi); have p273 : 0 ≤ (x3_2 : Int) := od_; have q273 : x3_2 < (l0.length : Int) := od_; obtain ⟨ad273, e273, hx273_0, hx273_1, hx273_2, hx273_3, hx273_4⟩ := at_T51 HR0.out x3_2 p273 q273; obtain rfl : ad271 = ad273 := (by injection e273); replace hx273_0 := cb_ HB hx273_0; replace hx273_1 := cb_ HB hx273_1; replace hx273_2 := cb_ HB hx273_2; replace hx273_3 := cb_ HB hx273_3; replace hx273_4 := cb_ HB hx273_4; replace p273 := eq_true p273; replace q273 := eq_true q273) | (go_at_call 30; (with_reducible refine (cohousingref01_Valid.calls kj7 ((rd_T51 l0 x3_2).f2.f0) ((rd_T51 l0 x3_2).f2.f1) true _ A20.out).mono ?_); rintro e w34 ⟨rfl, hb⟩; have n0_ := mk_ (below_step (bb_ HB) hb); clear HB; revert n0_; intro HB; (try clear hb); (try clear hb2); (try clear hk); (try clear hi); have p275 : 0 ≤ (x3_2 : Int) := od_; have q275 : x3_2 < (l0.length : Int) := od_; obtain ⟨ad275, e275, hx275_0, hx275_1, hx275_2, hx275_3, hx275_4⟩ := at_T51 HR0.out x3_2 p275 q275; obtain rfl : ad271 = ad275 := (by injection e275); replace hx275_0 := cb_ HB hx275_0; replace hx275_1 := cb_ HB hx275_1; replace hx275_2 := cb_ HB hx275_2; replace hx275_3 := cb_ HB hx275_3; replace hx275_4 := cb_ HB hx275_4; replace p275 := eq_true p275; replace q275 := eq_true q275; have p276 : 0 ≤ (x3_2 : Int) := od_; have q276 : x3_2 < (l0.length : Int) := od_; obtain ⟨ad276, e276, hx276_0, hx276_1, hx276_2, hx276_3, hx276_4⟩ := at_T51 HR0.out x3_2 p276 q276; obtain rfl : ad271 = ad276 := (by injection e276); replace hx276_0 := cb_ HB hx276_0; replace hx276_1 := cb_ HB hx276_1; replace hx276_2 := cb_ HB hx276_2; replace hx276_3 := cb_ HB hx276_3; replace hx276_4 := cb_ HB hx276_4; replace p276 := eq_true p276; replace q276 := eq_true q276; have p277 : 0 ≤ (x3_2 : Int) := od_; have q277 : x3_2 < (l0.length : Int) := od_; obtain ⟨ad277, e277, hx277_0, hx277_1, hx277_2, hx277_3, hx277_4⟩ := at_T51 HR0.out x3_2 p277 q277; obtain rfl : ad271 = ad277 := (by injection e277); replace hx277_0 := cb_ HB hx277_0; replace hx277_1 := cb_ HB hx277_1; replace hx277_2 := cb_ HB hx277_2; replace hx277_3 := cb_ HB hx277_3; replace hx277_4 := cb_ HB hx277_4; replace p277 := eq_true p277; replace q277 := eq_true q277; have p278 : 0 ≤ (x3_2 : Int) := od_; have q278 : x3_2 < (l0.length : Int) := od_; obtain ⟨ad278, e278, hx278_0, hx278_1, hx278_2, hx278_3, hx278_4⟩ := at_T51 HR0.out x3_2 p278 q278; obtain rfl : ad271 = ad278 := (by injection e278); replace hx278_0 := cb_ HB hx278_0; replace hx278_1 := cb_ HB hx278_1; replace hx278_2 := cb_ HB hx278_2; replace hx278_3 := cb_ HB hx278_3; replace hx278_4 := cb_ HB hx278_4; replace p278 := eq_true p278; replace q278 := eq_true q278))
        repeat (go_quiet (first | (go_at_call 30; (with_reducible refine (cohousingref01_Valid.calls kj7 ((rd_T51 l0 x3_2).f1.f0) ((rd_T51 l0 x3_2).f1.f1) true _ A19.out).mono ?_); rintro e w33 ⟨rfl, hb⟩; have n0_ := mk_ (below_step (bb_ HB) hb); clear HB; revert n0_; intro HB; (try clear hb); (try clear hb2); (try clear hk); (try clear hi); have p273 : 0 ≤ (x3_2 : Int) := od_; have q273 : x3_2 < (l0.length : Int) := od_; obtain ⟨ad273, e273, hx273_0, hx273_1, hx273_2, hx273_3, hx273_4⟩ := at_T51 HR0.out x3_2 p273 q273; obtain rfl : ad271 = ad273 := (by injection e273); replace hx273_0 := cb_ HB hx273_0; replace hx273_1 := cb_ HB hx273_1; replace hx273_2 := cb_ HB hx273_2; replace hx273_3 := cb_ HB hx273_3; replace hx273_4 := cb_ HB hx273_4; replace p273 := eq_true p273; replace q273 := eq_true q273) | (go_at_call 30; (with_reducible refine (cohousingref01_Valid.calls kj7 ((rd_T51 l0 x3_2).f2.f0) ((rd_T51 l0 x3_2).f2.f1) true _ A20.out).mono ?_); rintro e w34 ⟨rfl, hb⟩; have n0_ := mk_ (below_step (bb_ HB) hb); clear HB; revert n0_; intro HB; (try clear hb); (try clear hb2); (try clear hk); (try clear hi); have p275 : 0 ≤ (x3_2 : Int) := od_; have q275 : x3_2 < (l0.length : Int) := od_; obtain ⟨ad275, e275, hx275_0, hx275_1, hx275_2, hx275_3, hx275_4⟩ := at_T51 HR0.out x3_2 p275 q275; obtain rfl : ad271 = ad275 := (by injection e275); replace hx275_0 := cb_ HB hx275_0; replace hx275_1 := cb_ HB hx275_1; replace hx275_2 := cb_ HB hx275_2; replace hx275_3 := cb_ HB hx275_3; replace hx275_4 := cb_ HB hx275_4; replace p275 := eq_true p275; replace q275 := eq_true q275; have p276 : 0 ≤ (x3_2 : Int) := od_; have q276 : x3_2 < (l0.length : Int) := od_; obtain ⟨ad276, e276, hx276_0, hx276_1, hx276_2, hx276_3, hx276_4⟩ := at_T51 HR0.out x3_2 p276 q276; obtain rfl : ad271 = ad276 := (by injection e276); replace hx276_0 := cb_ HB hx276_0; replace hx276_1 := cb_ HB hx276_1; replace hx276_2 := cb_ HB hx276_2; replace hx276_3 := cb_ HB hx276_3; replace hx276_4 := cb_ HB hx276_4; replace p276 := eq_true p276; replace q276 := eq_true q276; have p277 : 0 ≤ (x3_2 : Int) := od_; have q277 : x3_2 < (l0.length : Int) := od_; obtain ⟨ad277, e277, hx277_0, hx277_1, hx277_2, hx277_3, hx277_4⟩ := at_T51 HR0.out x3_2 p277 q277; obtain rfl : ad271 = ad277 := (by injection e277); replace hx277_0 := cb_ HB hx277_0; replace hx277_1 := cb_ HB hx277_1; replace hx277_2 := cb_ HB hx277_2; replace hx277_3 := cb_ HB hx277_3; replace hx277_4 := cb_ HB hx277_4; replace p277 := eq_true p277; replace q277 := eq_true q277; have p278 : 0 ≤ (x3_2 : Int) := od_; have q278 : x3_2 < (l0.length : Int) := od_; obtain ⟨ad278, e278, hx278_0, hx278_1, hx278_2, hx278_3, hx278_4⟩ := at_T51 HR0.out x3_2 p278 q278; obtain rfl : ad271 = ad278 := (by injection e278); replace hx278_0 := cb_ HB hx278_0; replace hx278_1 := cb_ HB hx278_1; replace hx278_2 := cb_ HB hx278_2; replace hx278_3 := cb_ HB hx278_3; replace hx278_4 := cb_ HB hx278_4; replace p278 := eq_true p278; replace q278 := eq_true q278)); try go_wp2_with (first | (go_at_call 30; (with_reducible refine (cohousingref01_Valid.calls kj7 ((rd_T51 l0 x3_2).f1.f0) ((rd_T51 l0 x3_2).f1.f1) true _ A19.out).mono ?_); rintro e w33 ⟨rfl, hb⟩; have n0_ := mk_ (below_step (bb_ HB) hb); clear HB; revert n0_; intro HB; (try clear hb); (try clear hb2); (try clear hk); (try clear hi); have p273 : 0 ≤ (x3_2 : Int) := od_; have q273 : x3_2 < (l0.length : Int) := od_; obtain ⟨ad273, e273, hx273_0, hx273_1, hx273_2, hx273_3, hx273_4⟩ := at_T51 HR0.out x3_2 p273 q273; obtain rfl : ad271 = ad273 := (by injection e273); replace hx273_0 := cb_ HB hx273_0; replace hx273_1 := cb_ HB hx273_1; replace hx273_2 := cb_ HB hx273_2; replace hx273_3 := cb_ HB hx273_3; replace hx273_4 := cb_ HB hx273_4; replace p273 := eq_true p273; replace q273 := eq_true q273) | (go_at_call 30; (with_reducible refine (cohousingref01_Valid.calls kj7 ((rd_T51 l0 x3_2).f2.f0) ((rd_T51 l0 x3_2).f2.f1) true _ A20.out).mono ?_); rintro e w34 ⟨rfl, hb⟩; have n0_ := mk_ (below_step (bb_ HB) hb); clear HB; revert n0_; intro HB; (try clear hb); (try clear hb2); (try clear hk); (try clear hi); have p275 : 0 ≤ (x3_2 : Int) := od_; have q275 : x3_2 < (l0.length : Int) := od_; obtain ⟨ad275, e275, hx275_0, hx275_1, hx275_2, hx275_3, hx275_4⟩ := at_T51 HR0.out x3_2 p275 q275; obtain rfl : ad271 = ad275 := (by injection e275); replace hx275_0 := cb_ HB hx275_0; replace hx275_1 := cb_ HB hx275_1; replace hx275_2 := cb_ HB hx275_2; replace hx275_3 := cb_ HB hx275_3; replace hx275_4 := cb_ HB hx275_4; replace p275 := eq_true p275; replace q275 := eq_true q275; have p276 : 0 ≤ (x3_2 : Int) := od_; have q276 : x3_2 < (l0.length : Int) := od_; obtain ⟨ad276, e276, hx276_0, hx276_1, hx276_2, hx276_3, hx276_4⟩ := at_T51 HR0.out x3_2 p276 q276; obtain rfl : ad271 = ad276 := (by injection e276); replace hx276_0 := cb_ HB hx276_0; replace hx276_1 := cb_ HB hx276_1; replace hx276_2 := cb_ HB hx276_2; replace hx276_3 := cb_ HB hx276_3; replace hx276_4 := cb_ HB hx276_4; replace p276 := eq_true p276; replace q276 := eq_true q276; have p277 : 0 ≤ (x3_2 : Int) := od_; have q277 : x3_2 < (l0.length : Int) := od_; obtain ⟨ad277, e277, hx277_0, hx277_1, hx277_2, hx277_3, hx277_4⟩ := at_T51 HR0.out x3_2 p277 q277; obtain rfl : ad271 = ad277 := (by injection e277); replace hx277_0 := cb_ HB hx277_0; replace hx277_1 := cb_ HB hx277_1; replace hx277_2 := cb_ HB hx277_2; replace hx277_3 := cb_ HB hx277_3; replace hx277_4 := cb_ HB hx277_4; replace p277 := eq_true p277; replace q277 := eq_true q277; have p278 : 0 ≤ (x3_2 : Int) := od_; have q278 : x3_2 < (l0.length : Int) := od_; obtain ⟨ad278, e278, hx278_0, hx278_1, hx278_2, hx278_3, hx278_4⟩ := at_T51 HR0.out x3_2 p278 q278; obtain rfl : ad271 = ad278 := (by injection e278); replace hx278_0 := cb_ HB hx278_0; replace hx278_1 := cb_ HB hx278_1; replace hx278_2 := cb_ HB hx278_2; replace hx278_3 := cb_ HB hx278_3; replace hx278_4 := cb_ HB hx278_4; replace p278 := eq_true p278; replace q278 := eq_true q278)))
        go_ret
        exact ⟨ew_, bb_ HB⟩
       rw [if_neg c32] at H
       have c32b0 : decide (((rd_T51 l0 x3_2).f2.f0) < (-100000)) = false := decide_eq_false c32
       clear c32
       have H' := mk_ H
       clear H
       have p271 : 0 ≤ (x3_2 : Int) := od_
       have q271 : x3_2 < (l0.length : Int) := od_
       obtain ⟨ad271, e271, hx271_0, hx271_1, hx271_2, hx271_3, hx271_4⟩ := at_T51 HR0.out x3_2 p271 q271
       cases e271
       replace hx271_0 := cb_ HB hx271_0
       replace hx271_1 := cb_ HB hx271_1
       replace hx271_2 := cb_ HB hx271_2
       replace hx271_3 := cb_ HB hx271_3
       replace hx271_4 := cb_ HB hx271_4
       replace p271 := eq_true p271
       replace q271 := eq_true q271
       go_wp2_with (first | (go_at_call 30; (with_reducible refine (cohousingref01_Valid.calls kj7 ((rd_T51 l0 x3_2).f1.f0) ((rd_T51 l0 x3_2).f1.f1) true _ A19.out).mono ?_); rintro e w35 ⟨rfl, hb⟩; have n0_ := mk_ (below_step (bb_ HB) hb); clear HB; revert n0_; intro HB; (try clear hb); (try clear hb2); (try clear hk); (try clear hi); have p273 : 0 ≤ (x3_2 : Int) := od_; have q273 : x3_2 < (l0.length : Int) := od_; obtain ⟨ad273, e273, hx273_0, hx273_1, hx273_2, hx273_3, hx273_4⟩ := at_T51 HR0.out x3_2 p273 q273; obtain rfl : ad271 = ad273 := (by injection e273); replace hx273_0 := cb_ HB hx273_0; replace hx273_1 := cb_ HB hx273_1; replace hx273_2 := cb_ HB hx273_2; replace hx273_3 := cb_ HB hx273_3; replace hx273_4 := cb_ HB hx273_4; replace p273 := eq_true p273; replace q273 := eq_true q273) | (go_at_call 30; (with_reducible refine (cohousingref01_Valid.calls kj7 ((rd_T51 l0 x3_2).f2.f0) ((rd_T51 l0 x3_2).f2.f1) true _ A20.out).mono ?_); rintro e w36 ⟨rfl, hb⟩; have n0_ := mk_ (below_step (bb_ HB) hb); clear HB; revert n0_; intro HB; (try clear hb); (try clear hb2); (try clear hk); (try clear hi); have p275 : 0 ≤ (x3_2 : Int) := od_; have q275 : x3_2 < (l0.length : Int) := od_; obtain ⟨ad275, e275, hx275_0, hx275_1, hx275_2, hx275_3, hx275_4⟩ := at_T51 HR0.out x3_2 p275 q275; obtain rfl : ad271 = ad275 := (by injection e275); replace hx275_0 := cb_ HB hx275_0; replace hx275_1 := cb_ HB hx275_1; replace hx275_2 := cb_ HB hx275_2; replace hx275_3 := cb_ HB hx275_3; replace hx275_4 := cb_ HB hx275_4; replace p275 := eq_true p275; replace q275 := eq_true q275; have p276 : 0 ≤ (x3_2 : Int) := od_; have q276 : x3_2 < (l0.length : Int) := od_; obtain ⟨ad276, e276, hx276_0, hx276_1, hx276_2, hx276_3, hx276_4⟩ := at_T51 HR0.out x3_2 p276 q276; obtain rfl : ad271 = ad276 := (by injection e276); replace hx276_0 := cb_ HB hx276_0; replace hx276_1 := cb_ HB hx276_1; replace hx276_2 := cb_ HB hx276_2; replace hx276_3 := cb_ HB hx276_3; replace hx276_4 := cb_ HB hx276_4; replace p276 := eq_true p276; replace q276 := eq_true q276; have p277 : 0 ≤ (x3_2 : Int) := od_; have q277 : x3_2 < (l0.length : Int) := od_; obtain ⟨ad277, e277, hx277_0, hx277_1, hx277_2, hx277_3, hx277_4⟩ := at_T51 HR0.out x3_2 p277 q277; obtain rfl : ad271 = ad277 := (by injection e277); replace hx277_0 := cb_ HB hx277_0; replace hx277_1 := cb_ HB hx277_1; replace hx277_2 := cb_ HB hx277_2; replace hx277_3 := cb_ HB hx277_3; replace hx277_4 := cb_ HB hx277_4; replace p277 := eq_true p277; replace q277 := eq_true q277; have p278 : 0 ≤ (x3_2 : Int) := od_; have q278 : x3_2 < (l0.length : Int) := od_; obtain ⟨ad278, e278, hx278_0, hx278_1, hx278_2, hx278_3, hx278_4⟩ := at_T51 HR0.out x3_2 p278 q278; obtain rfl : ad271 = ad278 := (by injection e278); replace hx278_0 := cb_ HB hx278_0; replace hx278_1 := cb_ HB hx278_1; replace hx278_2 := cb_ HB hx278_2; replace hx278_3 := cb_ HB hx278_3; replace hx278_4 := cb_ HB hx278_4; replace p278 := eq_true p278; replace q278 := eq_true q278))
       repeat (go_quiet (first | (go_at_call 30; (with_reducible refine (cohousingref01_Valid.calls kj7 ((rd_T51 l0 x3_2).f1.f0) ((rd_T51 l0 x3_2).f1.f1) true _ A19.out).mono ?_); rintro e w35 ⟨rfl, hb⟩; have n0_ := mk_ (below_step (bb_ HB) hb); clear HB; revert n0_; intro HB; (try clear hb); (try clear hb2); (try clear hk); (try clear hi); have p273 : 0 ≤ (x3_2 : Int) := od_; have q273 : x3_2 < (l0.length : Int) := od_; obtain ⟨ad273, e273, hx273_0, hx273_1, hx273_2, hx273_3, hx273_4⟩ := at_T51 HR0.out x3_2 p273 q273; obtain rfl : ad271 = ad273 := (by injection e273); replace hx273_0 := cb_ HB hx273_0; replace hx273_1 := cb_ HB hx273_1; replace hx273_2 := cb_ HB hx273_2; replace hx273_3 := cb_ HB hx273_3; replace hx273_4 := cb_ HB hx273_4; replace p273 := eq_true p273; replace q273 := eq_true q273) | (go_at_call 30; (with_reducible refine (cohousingref01_Valid.calls kj7 ((rd_T51 l0 x3_2).f2.f0) ((rd_T51 l0 x3_2).f2.f1) true _ A20.out).mono ?_); rintro e w36 ⟨rfl, hb⟩; have n0_ := mk_ (below_step (bb_ HB) hb); clear HB; revert n0_; intro HB; (try clear hb); (try clear hb2); (try clear hk); (try clear hi); have p275 : 0 ≤ (x3_2 : Int) := od_; have q275 : x3_2 < (l0.length : Int) := od_; obtain ⟨ad275, e275, hx275_0, hx275_1, hx275_2, hx275_3, hx275_4⟩ := at_T51 HR0.out x3_2 p275 q275; obtain rfl : ad271 = ad275 := (by injection e275); replace hx275_0 := cb_ HB hx275_0; replace hx275_1 := cb_ HB hx275_1; replace hx275_2 := cb_ HB hx275_2; replace hx275_3 := cb_ HB hx275_3; replace hx275_4 := cb_ HB hx275_4; replace p275 := eq_true p275; replace q275 := eq_true q275; have p276 : 0 ≤ (x3_2 : Int) := od_; have q276 : x3_2 < (l0.length : Int) := od_; obtain ⟨ad276, e276, hx276_0, hx276_1, hx276_2, hx276_3, hx276_4⟩ := at_T51 HR0.out x3_2 p276 q276; obtain rfl : ad271 = ad276 := (by injection e276); replace hx276_0 := cb_ HB hx276_0; replace hx276_1 := cb_ HB hx276_1; replace hx276_2 := cb_ HB hx276_2; replace hx276_3 := cb_ HB hx276_3; replace hx276_4 := cb_ HB hx276_4; replace p276 := eq_true p276; replace q276 := eq_true q276; have p277 : 0 ≤ (x3_2 : Int) := od_; have q277 : x3_2 < (l0.length : Int) := od_; obtain ⟨ad277, e277, hx277_0, hx277_1, hx277_2, hx277_3, hx277_4⟩ := at_T51 HR0.out x3_2 p277 q277; obtain rfl : ad271 = ad277 := (by injection e277); replace hx277_0 := cb_ HB hx277_0; replace hx277_1 := cb_ HB hx277_1; replace hx277_2 := cb_ HB hx277_2; replace hx277_3 := cb_ HB hx277_3; replace hx277_4 := cb_ HB hx277_4; replace p277 := eq_true p277; replace q277 := eq_true q277; have p278 : 0 ≤ (x3_2 : Int) := od_; have q278 : x3_2 < (l0.length : Int) := od_; obtain ⟨ad278, e278, hx278_0, hx278_1, hx278_2, hx278_3, hx278_4⟩ := at_T51 HR0.out x3_2 p278 q278; obtain rfl : ad271 = ad278 := (by injection e278); replace hx278_0 := cb_ HB hx278_0; replace hx278_1 := cb_ HB hx278_1; replace hx278_2 := cb_ HB hx278_2; replace hx278_3 := cb_ HB hx278_3; replace hx278_4 := cb_ HB hx278_4; replace p278 := eq_true p278; replace q278 := eq_true q278)); try go_wp2_with (first | (go_at_call 30; (with_reducible refine (cohousingref01_Valid.calls kj7 ((rd_T51 l0 x3_2).f1.f0) ((rd_T51 l0 x3_2).f1.f1) true _ A19.out).mono ?_); rintro e w35 ⟨rfl, hb⟩; have n0_ := mk_ (below_step (bb_ HB) hb); clear HB; revert n0_; intro HB; (try clear hb); (try clear hb2); (try clear hk); (try clear hi); have p273 : 0 ≤ (x3_2 : Int) := od_; have q273 : x3_2 < (l0.length : Int) := od_; obtain ⟨ad273, e273, hx273_0, hx273_1, hx273_2, hx273_3, hx273_4⟩ := at_T51 HR0.out x3_2 p273 q273; obtain rfl : ad271 = ad273 := (by injection e273); replace hx273_0 := cb_ HB hx273_0; replace hx273_1 := cb_ HB hx273_1; replace hx273_2 := cb_ HB hx273_2; replace hx273_3 := cb_ HB hx273_3; replace hx273_4 := cb_ HB hx273_4; replace p273 := eq_true p273; replace q273 := eq_true q273) | (go_at_call 30; (with_reducible refine (cohousingref01_Valid.calls kj7 ((rd_T51 l0 x3_2).f2.f0) ((rd_T51 l0 x3_2).f2.f1) true _ A20.out).mono ?_); rintro e w36 ⟨rfl, hb⟩; have n0_ := mk_ (below_step (bb_ HB) hb); clear HB; revert n0_; intro HB; (try clear hb); (try clear hb2); (try clear hk); (try clear hi); have p275 : 0 ≤ (x3_2 : Int) := od_; have q275 : x3_2 < (l0.length : Int) := od_; obtain ⟨ad275, e275, hx275_0, hx275_1, hx275_2, hx275_3, hx275_4⟩ := at_T51 HR0.out x3_2 p275 q275; obtain rfl : ad271 = ad275 := (by injection e275); replace hx275_0 := cb_ HB hx275_0; replace hx275_1 := cb_ HB hx275_1; replace hx275_2 := cb_ HB hx275_2; replace hx275_3 := cb_ HB hx275_3; replace hx275_4 := cb_ HB hx275_4; replace p275 := eq_true p275; replace q275 := eq_true q275; have p276 : 0 ≤ (x3_2 : Int) := od_; have q276 : x3_2 < (l0.length : Int) := od_; obtain ⟨ad276, e276, hx276_0, hx276_1, hx276_2, hx276_3, hx276_4⟩ := at_T51 HR0.out x3_2 p276 q276; obtain rfl : ad271 = ad276 := (by injection e276); replace hx276_0 := cb_ HB hx276_0; replace hx276_1 := cb_ HB hx276_1; replace hx276_2 := cb_ HB hx276_2; replace hx276_3 := cb_ HB hx276_3; replace hx276_4 := cb_ HB hx276_4; replace p276 := eq_true p276; replace q276 := eq_true q276; have p277 : 0 ≤ (x3_2 : Int) := od_; have q277 : x3_2 < (l0.length : Int) := od_; obtain ⟨ad277, e277, hx277_0, hx277_1, hx277_2, hx277_3, hx277_4⟩ := at_T51 HR0.out x3_2 p277 q277; obtain rfl : ad271 = ad277 := (by injection e277); replace hx277_0 := cb_ HB hx277_0; replace hx277_1 := cb_ HB hx277_1; replace hx277_2 := cb_ HB hx277_2; replace hx277_3 := cb_ HB hx277_3; replace hx277_4 := cb_ HB hx277_4; replace p277 := eq_true p277; replace q277 := eq_true q277; have p278 : 0 ≤ (x3_2 : Int) := od_; have q278 : x3_2 < (l0.length : Int) := od_; obtain ⟨ad278, e278, hx278_0, hx278_1, hx278_2, hx278_3, hx278_4⟩ := at_T51 HR0.out x3_2 p278 q278; obtain rfl : ad271 = ad278 := (by injection e278); replace hx278_0 := cb_ HB hx278_0; replace hx278_1 := cb_ HB hx278_1; replace hx278_2 := cb_ HB hx278_2; replace hx278_3 := cb_ HB hx278_3; replace hx278_4 := cb_ HB hx278_4; replace p278 := eq_true p278; replace q278 := eq_true q278)))
       go_roundg kj7
       case measure => have := HJ1.out; have := HK2.out; have := HJ7.out; omega
       case rel => exact ⟨(wrap64 (x3_2 + 1)), sd_, H', ⟨by have := HJ1.out; have := HK2.out; have := HJ7.out; omega⟩, ⟨bb_ HB⟩⟩
end
section
def cohousingref05_Piece.l0 : Nat → List (S51) → Int → Int → Int → Int → Int → Int → Int → Option (Int × Int × Int × Int × Int)
 | 0, _, _, _, _, _, _, _, _ => none
 | k + 1, x0, x1, x6, x282000, x282001, x282002, x282003, x282004 => if x6 < (x0.length : Int) then (if 0 ≤ x6 then (if ((rd_T51 x0 x6).f0) ≤ x1 then (cohousingref05_Piece.l0 k x0 x1 (wrap64 (x6 + 1)) ((rd_T51 x0 x6).f0) ((rd_T51 x0 x6).f1.f0) ((rd_T51 x0 x6).f1.f1) ((rd_T51 x0 x6).f2.f0) ((rd_T51 x0 x6).f2.f1)) else (cohousingref05_Piece.l0 k x0 x1 (wrap64 (x6 + 1)) x282000 x282001 x282002 x282003 x282004)) else (none)) else (some (x282000, x282001, x282002, x282003, x282004))
def cohousingref05_Piece.f (k : Nat) (l0 : List (S51)) (a1 : Int) : Option (Int × Int × Int × Int × Int) := if 0 < (l0.length : Int) then (cohousingref05_Piece.l0 k l0 a1 0 ((rd_T51 l0 0).f0) ((rd_T51 l0 0).f1.f0) ((rd_T51 l0 0).f1.f1) ((rd_T51 l0 0).f2.f0) ((rd_T51 l0 0).f2.f1)) else (none)
theorem cohousingref05_Piece.calls (k : Nat) (A0 : Option Addr) (c0 : Nat) (l0 : List (S51)) (a1 : Int) (r1 : Int) (r2 : Int) (r3 : Int) (r4 : Int) (r5 : Int) (w : World) (hr0 : Kd.C k51 w A0 l0.length l0) (hc0 : l0.length ≤ c0) (h : cohousingref05_Piece.f k l0 a1 = some (r1, r2, r3, r4, r5)) :
  Calls Try.prog 43 #[.slice A0 l0.length c0, .int .i64 a1] w fun e w' => e = .returned (.agg #[.int .i64 r1, .int .i64 r2, .int .i64 r3, .int .i64 r4, .int .i64 r5]) ∧ Below w.heap.size w w' := by
 have hu51 := Try.underlying51
 have HR0 := mk_ hr0
 have HC0 := mk_ hc0
 clear hr0 hc0
 have HB := mk_ (Below.refl w.heap.size w)
 have H : (if 0 < (l0.length : Int) then (cohousingref05_Piece.l0 k l0 a1 0 ((rd_T51 l0 0).f0) ((rd_T51 l0 0).f1.f0) ((rd_T51 l0 0).f1.f1) ((rd_T51 l0 0).f2.f0) ((rd_T51 l0 0).f2.f1)) else (none)) = some (r1, r2, r3, r4, r5) := h
 clear h
 by_cases c3 : 0 < (l0.length : Int)
 rotate_left
 ·rw [if_neg c3] at H
  exact absurd H (by simp)
 rw [if_pos c3] at H
 have c3b0 : decide (0 < (l0.length : Int)) = true := decide_eq_true c3
 have c3b1 : decide (0 < l0.length) = true := decide_eq_true (by omega)
 clear c3
 have H' := mk_ H
 clear H
 go_enter Try.func43, Try.ntmps43
 go_wp2_with (first | ((with_reducible refine gate_dst (N := 4) rfl ?_); refine box_event ?hg (N := 4) ?hd (cs := #[.int .i64 0, .int .i64 0, .int .i64 0, .int .i64 0, .int .i64 0]) (t := 51) ?hr ?_; (case hd => rfl); (case hg => rfl); (case hr => first | (go_simp; done) | (go_simp; rfl)); intro gb279 hg w4 hbox hb; have n0_ := mk_ (below_step (bb_ HB) hb); have n1_ := mk_ (hbox); have n2_ := mk_ (bz_ hg (bb_ HB)); have n3_ := mk_ (bz_ hg (bb_ HB)); clear HB; revert n0_ n1_ n2_ n3_; intro HB BK279 GW279 GE279; clear hb hbox hg; have p280 : 0 ≤ (0 : Int) := (by omega); have q280 : 0 < (l0.length : Int) := od_; obtain ⟨ad280, e280, hx280_0, hx280_1, hx280_2, hx280_3, hx280_4⟩ := at_T51 HR0.out 0 p280 q280; cases e280; have qi280 : (0 < l0.length) = True := eq_true (by omega); (try rw [show ((0 : Int)).toNat = 0 from rfl] at hx280_0); (try rw [show 0 * 5 = 0 from rfl] at hx280_0); (try rw [Addr.add_zero'] at hx280_0); (try rw [show ((0 : Int)).toNat = 0 from rfl] at hx280_1); (try rw [show 0 * 5 = 0 from rfl] at hx280_1); (try rw [Addr.add_zero'] at hx280_1); (try rw [show ((0 : Int)).toNat = 0 from rfl] at hx280_2); (try rw [show 0 * 5 = 0 from rfl] at hx280_2); (try rw [Addr.add_zero'] at hx280_2); (try rw [show ((0 : Int)).toNat = 0 from rfl] at hx280_3); (try rw [show 0 * 5 = 0 from rfl] at hx280_3); (try rw [Addr.add_zero'] at hx280_3); (try rw [show ((0 : Int)).toNat = 0 from rfl] at hx280_4); (try rw [show 0 * 5 = 0 from rfl] at hx280_4); (try rw [Addr.add_zero'] at hx280_4); replace hx280_0 := cb_ HB hx280_0; replace hx280_1 := cb_ HB hx280_1; replace hx280_2 := cb_ HB hx280_2; replace hx280_3 := cb_ HB hx280_3; replace hx280_4 := cb_ HB hx280_4; replace p280 := eq_true p280; replace q280 := eq_true q280) | ((with_reducible refine gate_dst (N := 5) rfl ?_); refine box_event ?hg (N := 5) ?hd (cs := #[.int .i64 0, .int .i64 0, .int .i64 0, .int .i64 0, .int .i64 0]) (t := 51) ?hr ?_; (case hd => rfl); (case hg => rfl); (case hr => first | (go_simp; done) | (go_simp; rfl)); intro gb281 hg w5 hbox hb; have n0_ := mk_ (blk_below (kk_ BK279) hb); have n1_ := mk_ (below_step (bs_ HB GE279.out) hb); have n2_ := mk_ (hbox); have n3_ := mk_ (bz_ hg (bs_ HB GE279.out)); have n4_ := mk_ (bz_ hg (bs_ HB GE279.out)); have n5_ := mk_ (bl_ hg (kk_ BK279)); have n6_ := mk_ (bg_ hg (kk_ BK279)); clear BK279 HB; revert n0_ n1_ n2_ n3_ n4_ n5_ n6_; intro BK279 HB BK281 GW281 GE281 NB279_281 NB281_279; clear hb hbox hg; have hnb6 := NB281_279.out; have hnc6 := NB279_281.out; have hcz7_0 := bc0_ BK281.out; have hcz7_1 := bc1_ BK281.out; have hcz7_2 := bc2_ BK281.out; have hcz7_3 : w5.cell? ⟨gb281, 3, none⟩ = some (.int .i64 0) := (blk_cell BK281.out 3).trans rfl; have hcz7_4 : w5.cell? ⟨gb281, 4, none⟩ = some (.int .i64 0) := (blk_cell BK281.out 4).trans rfl; have hfz7_0 := blk_frozen BK281.out 0; have hfz7_1 := blk_frozen BK281.out 1; have hfz7_2 := blk_frozen BK281.out 2; have hfz7_3 := blk_frozen BK281.out 3; have hfz7_4 := blk_frozen BK281.out 4))
 go_loopg [6] k (fun kq v6 w' => ∃ (x6_1 : Int) (x282000_1 : Int) (x282001_1 : Int) (x282002_1 : Int) (x282003_1 : Int) (x282004_1 : Int), v6 = .int .i64 x6_1 ∧ Aside0 (cohousingref05_Piece.l0 kq l0 a1 x6_1 x282000_1 x282001_1 x282002_1 x282003_1 x282004_1 = some (r1, r2, r3, r4, r5)) ∧ Aside0 (kq ≤ k) ∧ Aside0 (w'.heap[gb279]? = some (.cells #[.int .i64 0, .int .i64 0, .int .i64 0, .int .i64 0, .int .i64 0] 51 (0, 0))) ∧ Aside0 (w'.heap[gb281]? = some (.cells #[.int .i64 x282000_1, .int .i64 x282001_1, .int .i64 x282002_1, .int .i64 x282003_1, .int .i64 x282004_1] 51 (0, 0))) ∧ Aside0 (Below w.heap.size w w'))
 case atStart => exact ⟨(0), ((rd_T51 l0 0).f0), ((rd_T51 l0 0).f1.f0), ((rd_T51 l0 0).f1.f1), ((rd_T51 l0 0).f2.f0), ((rd_T51 l0 0).f2.f1), sd_, H', ⟨Nat.le_refl _⟩, ⟨by (with_reducible repeat (first | refine blk_drewN ?_ _ | refine blk_drew ?_ | refine blk_alloc ?_ _)); refine blk_far ?_ NB279_281.out _; (with_reducible repeat (first | refine blk_drewN ?_ _ | refine blk_drew ?_ | refine blk_alloc ?_ _)); refine blk_far ?_ NB279_281.out _; (with_reducible repeat (first | refine blk_drewN ?_ _ | refine blk_drew ?_ | refine blk_alloc ?_ _)); refine blk_far ?_ NB279_281.out _; (with_reducible repeat (first | refine blk_drewN ?_ _ | refine blk_drew ?_ | refine blk_alloc ?_ _)); refine blk_far ?_ NB279_281.out _; (with_reducible repeat (first | refine blk_drewN ?_ _ | refine blk_drew ?_ | refine blk_alloc ?_ _)); refine blk_far ?_ NB279_281.out _; (with_reducible repeat (first | refine blk_drewN ?_ _ | refine blk_drew ?_ | refine blk_alloc ?_ _)); exact BK279.out⟩, ⟨by (with_reducible repeat (first | refine blk_drewN ?_ _ | refine blk_drew ?_ | refine blk_alloc ?_ _)); refine blk_put (cs := #[.int .i64 ((rd_T51 l0 0).f0), .int .i64 ((rd_T51 l0 0).f1.f0), .int .i64 ((rd_T51 l0 0).f1.f1), .int .i64 ((rd_T51 l0 0).f2.f0), .int .i64 0]) ?_ 4 _ rfl; (with_reducible repeat (first | refine blk_drewN ?_ _ | refine blk_drew ?_ | refine blk_alloc ?_ _)); refine blk_put (cs := #[.int .i64 ((rd_T51 l0 0).f0), .int .i64 ((rd_T51 l0 0).f1.f0), .int .i64 ((rd_T51 l0 0).f1.f1), .int .i64 0, .int .i64 0]) ?_ 3 _ rfl; (with_reducible repeat (first | refine blk_drewN ?_ _ | refine blk_drew ?_ | refine blk_alloc ?_ _)); refine blk_put (cs := #[.int .i64 ((rd_T51 l0 0).f0), .int .i64 ((rd_T51 l0 0).f1.f0), .int .i64 0, .int .i64 0, .int .i64 0]) ?_ 2 _ rfl; (with_reducible repeat (first | refine blk_drewN ?_ _ | refine blk_drew ?_ | refine blk_alloc ?_ _)); refine blk_put (cs := #[.int .i64 ((rd_T51 l0 0).f0), .int .i64 0, .int .i64 0, .int .i64 0, .int .i64 0]) ?_ 1 _ rfl; (with_reducible repeat (first | refine blk_drewN ?_ _ | refine blk_drew ?_ | refine blk_alloc ?_ _)); refine blk_put (cs := #[.int .i64 0, .int .i64 0, .int .i64 0, .int .i64 0, .int .i64 0]) ?_ 0 _ rfl; (with_reducible repeat (first | refine blk_drewN ?_ _ | refine blk_drew ?_ | refine blk_alloc ?_ _)); exact BK281.out⟩, ⟨bs2_ HB GE279 GE281⟩⟩
 case round =>
  clear H'
  try clear p2; try clear q2; try clear hx2; try clear qi2; try clear c3; try clear c3b0; try clear c3b1; try clear c4; try clear c6; try clear hcz7_0; try clear hcz7_1; try clear hcz7_2; try clear hcz7_3; try clear hcz7_4; try clear hfz7_0; try clear hfz7_1; try clear hfz7_2; try clear hfz7_3; try clear hfz7_4; try clear hx280_0; try clear hx280_1; try clear hx280_2; try clear hx280_3; try clear hx280_4; try clear p280; try clear q280
  obtain ⟨x6_1, x282000_1, x282001_1, x282002_1, x282003_1, x282004_1, rfl, HA, HK1, BK279, BK281, HB⟩ := hrel
  cases gk with
  | zero => exact absurd HA.out (by simp [cohousingref05_Piece.l0])
  | succ k1 =>
   have H := HA.out
   clear HA
   simp only [cohousingref05_Piece.l0] at H
   by_cases c8 : x6_1 < (l0.length : Int)
   rotate_left
   ·rw [if_neg c8] at H
    have c8b0 : decide (x6_1 < (l0.length : Int)) = false := decide_eq_false c8
    clear c8
    simp only [Option.some.injEq, Prod.mk.injEq] at H
    obtain ⟨rfl, rfl, rfl, rfl, rfl⟩ := H
    have hnb13 := NB281_279.out
    have hnc13 := NB279_281.out
    have hcz14_0 := bc0_ BK281.out
    have hcz14_1 := bc1_ BK281.out
    have hcz14_2 := bc2_ BK281.out
    have hcz14_3 : wr.cell? ⟨gb281, 3, none⟩ = some (.int .i64 x282003_1) := (blk_cell BK281.out 3).trans rfl
    have hcz14_4 : wr.cell? ⟨gb281, 4, none⟩ = some (.int .i64 x282004_1) := (blk_cell BK281.out 4).trans rfl
    have hfz14_0 := blk_frozen BK281.out 0
    have hfz14_1 := blk_frozen BK281.out 1
    have hfz14_2 := blk_frozen BK281.out 2
    have hfz14_3 := blk_frozen BK281.out 3
    have hfz14_4 := blk_frozen BK281.out 4
    have hcz15_0 := bc0_ BK279.out
    have hcz15_1 := bc1_ BK279.out
    have hcz15_2 := bc2_ BK279.out
    have hcz15_3 : wr.cell? ⟨gb279, 3, none⟩ = some (.int .i64 0) := (blk_cell BK279.out 3).trans rfl
    have hcz15_4 : wr.cell? ⟨gb279, 4, none⟩ = some (.int .i64 0) := (blk_cell BK279.out 4).trans rfl
    have hfz15_0 := blk_frozen BK279.out 0
    have hfz15_1 := blk_frozen BK279.out 1
    have hfz15_2 := blk_frozen BK279.out 2
    have hfz15_3 := blk_frozen BK279.out 3
    have hfz15_4 := blk_frozen BK279.out 4
    go_wp2
    refine bodyPost_ret (results_cell_row rfl _ _ gb279 51 #[.int .i64 x282000_1, .int .i64 x282001_1, .int .i64 x282002_1, .int .i64 x282003_1, .int .i64 x282004_1] (0, 0) _ rfl (by (with_reducible repeat (first | refine blk_drewN ?_ _ | refine blk_drew ?_ | refine blk_alloc ?_ _)); refine blk_put (cs := #[.int .i64 x282000_1, .int .i64 x282001_1, .int .i64 x282002_1, .int .i64 x282003_1, .int .i64 0]) ?_ 4 _ rfl; (with_reducible repeat (first | refine blk_drewN ?_ _ | refine blk_drew ?_ | refine blk_alloc ?_ _)); refine blk_put (cs := #[.int .i64 x282000_1, .int .i64 x282001_1, .int .i64 x282002_1, .int .i64 0, .int .i64 0]) ?_ 3 _ rfl; (with_reducible repeat (first | refine blk_drewN ?_ _ | refine blk_drew ?_ | refine blk_alloc ?_ _)); refine blk_put (cs := #[.int .i64 x282000_1, .int .i64 x282001_1, .int .i64 0, .int .i64 0, .int .i64 0]) ?_ 2 _ rfl; (with_reducible repeat (first | refine blk_drewN ?_ _ | refine blk_drew ?_ | refine blk_alloc ?_ _)); refine blk_put (cs := #[.int .i64 x282000_1, .int .i64 0, .int .i64 0, .int .i64 0, .int .i64 0]) ?_ 1 _ rfl; (with_reducible repeat (first | refine blk_drewN ?_ _ | refine blk_drew ?_ | refine blk_alloc ?_ _)); refine blk_put (cs := #[.int .i64 0, .int .i64 0, .int .i64 0, .int .i64 0, .int .i64 0]) ?_ 0 _ rfl; (with_reducible repeat (first | refine blk_drewN ?_ _ | refine blk_drew ?_ | refine blk_alloc ?_ _)); exact BK279.out) Try.underlying51 rfl (by kernel_rfl)) rfl ?_
    exact ⟨ew_, bs2_ HB GE279 GE281⟩
   rw [if_pos c8] at H
   have c8b0 : decide (x6_1 < (l0.length : Int)) = true := decide_eq_true c8
   clear c8
   by_cases c9 : 0 ≤ x6_1
   rotate_left
   ·rw [if_neg c9] at H
    exact absurd H (by simp)
   rw [if_pos c9] at H
   have c9b0 : decide (0 ≤ x6_1) = true := decide_eq_true c9
   clear c9
   by_cases c10 : ((rd_T51 l0 x6_1).f0) ≤ a1
   rotate_left
   ·rw [if_neg c10] at H
    have c10b0 : decide (((rd_T51 l0 x6_1).f0) ≤ a1) = false := decide_eq_false c10
    clear c10
    have H' := mk_ H
    clear H
    have p282 : 0 ≤ (x6_1 : Int) := od_
    have q282 : x6_1 < (l0.length : Int) := od_
    obtain ⟨ad282, e282, hx282_0, hx282_1, hx282_2, hx282_3, hx282_4⟩ := at_T51 HR0.out x6_1 p282 q282
    obtain rfl : ad280 = ad282 := (by injection e282)
    replace hx282_0 := cb_ HB hx282_0
    replace hx282_1 := cb_ HB hx282_1
    replace hx282_2 := cb_ HB hx282_2
    replace hx282_3 := cb_ HB hx282_3
    replace hx282_4 := cb_ HB hx282_4
    replace p282 := eq_true p282
    replace q282 := eq_true q282
    go_wp2
    go_roundg k1
    case measure => have := HK1.out; omega
    case rel => exact ⟨(wrap64 (x6_1 + 1)), (x282000_1), (x282001_1), (x282002_1), (x282003_1), (x282004_1), sd_, H', ⟨by have := HK1.out; omega⟩, ⟨kk_ BK279⟩, ⟨kk_ BK281⟩, ⟨bs2_ HB GE279 GE281⟩⟩
   rw [if_pos c10] at H
   have c10b0 : decide (((rd_T51 l0 x6_1).f0) ≤ a1) = true := decide_eq_true c10
   clear c10
   have H' := mk_ H
   clear H
   have p282 : 0 ≤ (x6_1 : Int) := od_
   have q282 : x6_1 < (l0.length : Int) := od_
   obtain ⟨ad282, e282, hx282_0, hx282_1, hx282_2, hx282_3, hx282_4⟩ := at_T51 HR0.out x6_1 p282 q282
   obtain rfl : ad280 = ad282 := (by injection e282)
   replace hx282_0 := cb_ HB hx282_0
   replace hx282_1 := cb_ HB hx282_1
   replace hx282_2 := cb_ HB hx282_2
   replace hx282_3 := cb_ HB hx282_3
   replace hx282_4 := cb_ HB hx282_4
   replace p282 := eq_true p282
   replace q282 := eq_true q282
   have p283 : 0 ≤ (x6_1 : Int) := od_
   have q283 : x6_1 < (l0.length : Int) := od_
   obtain ⟨ad283, e283, hx283_0, hx283_1, hx283_2, hx283_3, hx283_4⟩ := at_T51 HR0.out x6_1 p283 q283
   obtain rfl : ad280 = ad283 := (by injection e283)
   replace hx283_0 := cb_ HB hx283_0
   replace hx283_1 := cb_ HB hx283_1
   replace hx283_2 := cb_ HB hx283_2
   replace hx283_3 := cb_ HB hx283_3
   replace hx283_4 := cb_ HB hx283_4
   replace p283 := eq_true p283
   replace q283 := eq_true q283
   have hnb11 := NB281_279.out
   have hnc11 := NB279_281.out
   have hcz12_0 := bc0_ BK281.out
   have hcz12_1 := bc1_ BK281.out
   have hcz12_2 := bc2_ BK281.out
   have hcz12_3 : wr.cell? ⟨gb281, 3, none⟩ = some (.int .i64 x282003_1) := (blk_cell BK281.out 3).trans rfl
   have hcz12_4 : wr.cell? ⟨gb281, 4, none⟩ = some (.int .i64 x282004_1) := (blk_cell BK281.out 4).trans rfl
   have hfz12_0 := blk_frozen BK281.out 0
   have hfz12_1 := blk_frozen BK281.out 1
   have hfz12_2 := blk_frozen BK281.out 2
   have hfz12_3 := blk_frozen BK281.out 3
   have hfz12_4 := blk_frozen BK281.out 4
   go_wp2
   go_roundg k1
   case measure => have := HK1.out; omega
   case rel => exact ⟨(wrap64 (x6_1 + 1)), ((rd_T51 l0 x6_1).f0), ((rd_T51 l0 x6_1).f1.f0), ((rd_T51 l0 x6_1).f1.f1), ((rd_T51 l0 x6_1).f2.f0), ((rd_T51 l0 x6_1).f2.f1), sd_, H', ⟨by have := HK1.out; omega⟩, ⟨by (with_reducible repeat (first | refine blk_drewN ?_ _ | refine blk_drew ?_ | refine blk_alloc ?_ _)); refine blk_far ?_ NB279_281.out _; (with_reducible repeat (first | refine blk_drewN ?_ _ | refine blk_drew ?_ | refine blk_alloc ?_ _)); refine blk_far ?_ NB279_281.out _; (with_reducible repeat (first | refine blk_drewN ?_ _ | refine blk_drew ?_ | refine blk_alloc ?_ _)); refine blk_far ?_ NB279_281.out _; (with_reducible repeat (first | refine blk_drewN ?_ _ | refine blk_drew ?_ | refine blk_alloc ?_ _)); refine blk_far ?_ NB279_281.out _; (with_reducible repeat (first | refine blk_drewN ?_ _ | refine blk_drew ?_ | refine blk_alloc ?_ _)); refine blk_far ?_ NB279_281.out _; (with_reducible repeat (first | refine blk_drewN ?_ _ | refine blk_drew ?_ | refine blk_alloc ?_ _)); exact BK279.out⟩, ⟨by (with_reducible repeat (first | refine blk_drewN ?_ _ | refine blk_drew ?_ | refine blk_alloc ?_ _)); refine blk_put (cs := #[.int .i64 ((rd_T51 l0 x6_1).f0), .int .i64 ((rd_T51 l0 x6_1).f1.f0), .int .i64 ((rd_T51 l0 x6_1).f1.f1), .int .i64 ((rd_T51 l0 x6_1).f2.f0), .int .i64 x282004_1]) ?_ 4 _ rfl; (with_reducible repeat (first | refine blk_drewN ?_ _ | refine blk_drew ?_ | refine blk_alloc ?_ _)); refine blk_put (cs := #[.int .i64 ((rd_T51 l0 x6_1).f0), .int .i64 ((rd_T51 l0 x6_1).f1.f0), .int .i64 ((rd_T51 l0 x6_1).f1.f1), .int .i64 x282003_1, .int .i64 x282004_1]) ?_ 3 _ rfl; (with_reducible repeat (first | refine blk_drewN ?_ _ | refine blk_drew ?_ | refine blk_alloc ?_ _)); refine blk_put (cs := #[.int .i64 ((rd_T51 l0 x6_1).f0), .int .i64 ((rd_T51 l0 x6_1).f1.f0), .int .i64 x282002_1, .int .i64 x282003_1, .int .i64 x282004_1]) ?_ 2 _ rfl; (with_reducible repeat (first | refine blk_drewN ?_ _ | refine blk_drew ?_ | refine blk_alloc ?_ _)); refine blk_put (cs := #[.int .i64 ((rd_T51 l0 x6_1).f0), .int .i64 x282001_1, .int .i64 x282002_1, .int .i64 x282003_1, .int .i64 x282004_1]) ?_ 1 _ rfl; (with_reducible repeat (first | refine blk_drewN ?_ _ | refine blk_drew ?_ | refine blk_alloc ?_ _)); refine blk_put (cs := #[.int .i64 x282000_1, .int .i64 x282001_1, .int .i64 x282002_1, .int .i64 x282003_1, .int .i64 x282004_1]) ?_ 0 _ rfl; (with_reducible repeat (first | refine blk_drewN ?_ _ | refine blk_drew ?_ | refine blk_alloc ?_ _)); exact BK281.out⟩, ⟨bs2_ HB GE279 GE281⟩⟩
end
section
def cohousingref05_gcd.l0 : Nat → Int → Int → Option (Int)
 | 0, _, _ => none
 | k + 1, x0, x1 => if x1 > 0 then (if x1 = 0 then (none) else (cohousingref05_gcd.l0 k x1 (Int.tmod x0 x1))) else (some x0)
def cohousingref05_gcd.f (k : Nat) (a0 : Int) (a1 : Int) : Option (Int) := cohousingref05_gcd.l0 k a0 a1
theorem cohousingref05_gcd.calls (k : Nat) (a0 : Int) (a1 : Int) (r : Int) (w : World) (h : cohousingref05_gcd.f k a0 a1 = some r) :
  Calls Try.prog 55 #[.int .i64 a0, .int .i64 a1] w fun e w' => e = .returned (.int .i64 r) ∧ Drawn0 w w' := by
 have H : (cohousingref05_gcd.l0 k a0 a1) = some r := h
 clear h
 have H' := mk_ H
 clear H
 go_enter Try.func55, Try.ntmps55
 go_wp2
 go_loopg [0, 1] k (fun kq v0 v1 w' => ∃ (x0_1 : Int) (x1_1 : Int), v0 = .int .i64 x0_1 ∧ v1 = .int .i64 x1_1 ∧ Aside0 (cohousingref05_gcd.l0 kq x0_1 x1_1 = some r) ∧ Aside0 (kq ≤ k) ∧ Drawn0 w w')
 case atStart => exact ⟨(a0), (a1), sd_, sd_, H', ⟨Nat.le_refl _⟩, by repeat (first | exact Drawn0.refl _ | apply Drawn0.step)⟩
 case round =>
  clear H'
  try clear p2
  obtain ⟨x0_1, x1_1, rfl, rfl, HA, HK1, ⟨m1, rfl⟩⟩ := hrel
  cases gk with
  | zero => exact absurd HA.out (by simp [cohousingref05_gcd.l0])
  | succ k1 =>
   have H := HA.out
   clear HA
   simp only [cohousingref05_gcd.l0] at H
   by_cases c3 : x1_1 > 0
   rotate_left
   ·rw [if_neg c3] at H
    have c3b0 : decide (0 < x1_1) = false := decide_eq_false c3
    clear c3
    obtain rfl := Option.some.inj H
    go_wp2
    go_ret
    exact ⟨by first | rfl | (simp; done) | (simp [*]; done), by repeat (first | exact Drawn0.refl _ | apply Drawn0.step)⟩
   rw [if_pos c3] at H
   have c3b0 : decide (0 < x1_1) = true := decide_eq_true c3
   clear c3
   by_cases c4 : x1_1 = 0
   ·rw [if_pos c4] at H
    exact absurd H (by simp)
   rw [if_neg c4] at H
   have c4b0 : (x1_1 == 0) = false := beq_eq_false_iff_ne.mpr c4
   have c4b1 : (x1_1 != 0) = true := bne_iff_ne.mpr c4
   have H' := mk_ H
   clear H
   go_wp2
   go_roundg k1
   case measure => have := HK1.out; omega
   case rel => exact ⟨(x1_1), (Int.tmod x0_1 x1_1), sd_, sd_, H', ⟨by have := HK1.out; omega⟩, by repeat (first | exact Drawn0.refl _ | apply Drawn0.step)⟩
end
section
def cohousingref05_Reduce.f (k : Nat) (a0 : Int) (a1 : Int) : Option (Int × Int) := if a0 < 0 then ((cohousingref05_gcd.f k (wrap64 (-a0)) a1).bind fun t285 => (if t285 = 0 then (none) else (some (wrap64 (Int.tdiv a0 t285), wrap64 (Int.tdiv a1 t285))))) else ((cohousingref05_gcd.f k a0 a1).bind fun t286 => (if t286 = 0 then (none) else (some (wrap64 (Int.tdiv a0 t286), wrap64 (Int.tdiv a1 t286)))))
def cohousingref05_Reduce.T5 : Bool × List (List Nat × List Nat) := (true, [([], []), ([], []), ([0, 1], [0, 1]), ([], []), ([], []), ([3, 4], [3, 4]), ([2, 5], [2, 5]), ([6, 0, 1, 2, 3, 4, 5, 6], [6])])
def cohousingref05_Reduce.B5 : List Nat := [0, 0, 3, 0, 0, 24, 63, 127]
theorem cohousingref05_Reduce.tab5 : rtab .any (opsOf Try.f32 5) = cohousingref05_Reduce.T5 := by kernel_rfl
theorem cohousingref05_Reduce.bits5 : waitsOk cohousingref05_Reduce.T5.2 cohousingref05_Reduce.B5 = true := by kernel_rfl
theorem cohousingref05_Reduce.calls (k : Nat) (a0 : Int) (a1 : Int) (r1 : Int) (r2 : Int) (w : World) (h : cohousingref05_Reduce.f k a0 a1 = some (r1, r2)) :
  Calls Try.prog 32 #[.int .i64 a0, .int .i64 a1] w fun e w' => e = .returned (.agg #[.int .i64 r1, .int .i64 r2]) ∧ Below w.heap.size w w' := by
 have hu24 := Try.underlying24
 have HB := mk_ (Below.refl w.heap.size w)
 have H : (if a0 < 0 then ((cohousingref05_gcd.f k (wrap64 (-a0)) a1).bind fun t285 => (if t285 = 0 then (none) else (some (wrap64 (Int.tdiv a0 t285), wrap64 (Int.tdiv a1 t285))))) else ((cohousingref05_gcd.f k a0 a1).bind fun t286 => (if t286 = 0 then (none) else (some (wrap64 (Int.tdiv a0 t286), wrap64 (Int.tdiv a1 t286)))))) = some (r1, r2) := h
 clear h
 by_cases c3 : a0 < 0
 rotate_left
 ·rw [if_neg c3] at H
  have c3b0 : decide (a0 < 0) = false := decide_eq_false c3
  clear c3
  replace H := Option.bind_eq_some_iff.mp H
  obtain ⟨t286, A100, H⟩ := H
  replace H : (if t286 = 0 then (none) else (some (wrap64 (Int.tdiv a0 t286), wrap64 (Int.tdiv a1 t286)))) = some (r1, r2) := H
  have A10 := mk_ A100
  clear A100
  by_cases c11 : t286 = 0
  ·rw [if_pos c11] at H
   exact absurd H (by simp)
  rw [if_neg c11] at H
  have c11b0 : (t286 == 0) = false := beq_eq_false_iff_ne.mpr c11
  have c11b1 : (t286 != 0) = true := bne_iff_ne.mpr c11
  simp only [Option.some.injEq, Prod.mk.injEq] at H
  obtain ⟨rfl, rfl⟩ := H
  go_enter Try.func32, Try.ntmps32
  try go_wp2_with (first | ((with_reducible refine gate_dst (N := 4) rfl ?_); refine box_event ?hg (N := 4) ?hd (cs := #[.int .i64 0, .int .i64 0]) (t := 24) ?hr ?_; (case hd => rfl); (case hg => rfl); (case hr => first | (go_simp; done) | (go_simp; rfl)); intro gb284 hg w12 hbox hb; have n0_ := mk_ (below_step (bb_ HB) hb); have n1_ := mk_ (hbox); have n2_ := mk_ (bz_ hg (bb_ HB)); have n3_ := mk_ (bz_ hg (bb_ HB)); clear HB; revert n0_ n1_ n2_ n3_; intro HB BK284 GW284 GE284; clear hb hbox hg) | ((with_reducible refine gate_callee (f := 55) rfl ?_); refine gl_ (some 14) Try.func55 #[.int .i64 a0, .int .i64 a1] ?_; (with_reducible refine (cohousingref05_gcd.calls k a0 a1 t286 _ A10.out).mono ?_); rintro e w' ⟨rfl, ⟨nd, rfl⟩⟩; refine ⟨_, rfl, ?_⟩; (try (rw [drewN_self w12]; generalize hq_ : World.drewN w12 _ = w12; have n0_ : Aside0 (w12.heap[gb284]? = some (.cells #[.int .i64 0, .int .i64 0] 24 (0, 0))) := ⟨by rw [← hq_]; exact (kk_ BK284)⟩; have n1_ : Aside0 (Below w.heap.size w w12) := ⟨by rw [← hq_]; exact (bs_ HB GE284.out)⟩; clear BK284 HB hq_; revert n0_ n1_; intro BK284 HB))))
  have n0_ := mk_ (blk_drew BK284.out)
  have n1_ := mk_ (below_drew1 HB.out)
  clear BK284
  clear HB
  have BK284 := n0_
  have HB := n1_
  clear n0_ n1_
  refine start_ (n := 8) (S := fun w' => True) (ds := []) #[n_, n_, n_, n_, n_, n_, n_, n_] (by kernel_rfl) rfl rfl trivial (fun hHeld => ?_); refine with_tabW cohousingref05_Reduce.tab5 cohousingref05_Reduce.bits5 (fun HT_ HW_ => ?_)
  generalize w12.drew = w13 at BK284 HB hHeld ⊢
  refine pu_ 0 15 (w_ 8 1) rfl HT_ ?_
  refine pu_ 1 16 (w_ 8 3) rfl HT_ ?_
  refine pu_ 2 17 (w_ 8 7) rfl HT_ ?_
  refine pu_ 3 18 (w_ 8 15) rfl HT_ ?_
  refine pu_ 4 19 (w_ 8 31) rfl HT_ ?_
  refine pu_ 5 20 (w_ 8 63) rfl HT_ ?_
  refine pu_ 6 21 (w_ 8 127) rfl HT_ ?_
  refine one_ (i := 7) (N := none) (w_ 8 255) rfl rfl (one_of HT_.out (by kernel_rfl)) (by decide) (fun K hK => ?_)
  have hs14 : w13.cell? ⟨gb284, 0, none⟩ = some (.int .i64 0) := (blk_cell BK284.out 0).trans rfl
  have hfs14 := blk_frozen BK284.out 0
  have hs15 : w13.cell? ⟨gb284, 1, none⟩ = some (.int .i64 0) := (blk_cell BK284.out 1).trans rfl
  have hfs15 := blk_frozen BK284.out 1
  refine skip_ (w1 := ?_) (by rfl) rfl ?_ ?_
  rotate_left
  ·go_simp
   rfl
  refine hK.out _ _ trivial (fun hHeld => ?_)
  clear hK K
  refine done_ (done_of HT_.out (by kernel_rfl)) ?_
  try go_wp2
  refine bodyPost_ret (results_cell_row rfl _ _ gb284 24 #[.int .i64 (wrap64 (Int.tdiv a0 t286)), .int .i64 (wrap64 (Int.tdiv a1 t286))] (0, 0) _ rfl (by (with_reducible repeat (first | refine blk_drewN ?_ _ | refine blk_drew ?_ | refine blk_alloc ?_ _)); refine blk_put (cs := #[.int .i64 (wrap64 (Int.tdiv a0 t286)), .int .i64 0]) ?_ 1 _ rfl; (with_reducible repeat (first | refine blk_drewN ?_ _ | refine blk_drew ?_ | refine blk_alloc ?_ _)); refine blk_put (cs := #[.int .i64 0, .int .i64 0]) ?_ 0 _ rfl; (with_reducible repeat (first | refine blk_drewN ?_ _ | refine blk_drew ?_ | refine blk_alloc ?_ _)); exact BK284.out) Try.underlying24 rfl (by kernel_rfl)) rfl ?_
  exact ⟨ew_, bs1_ HB GE284⟩
 rw [if_pos c3] at H
 have c3b0 : decide (a0 < 0) = true := decide_eq_true c3
 clear c3
 replace H := Option.bind_eq_some_iff.mp H
 obtain ⟨t285, A40, H⟩ := H
 replace H : (if t285 = 0 then (none) else (some (wrap64 (Int.tdiv a0 t285), wrap64 (Int.tdiv a1 t285)))) = some (r1, r2) := H
 have A4 := mk_ A40
 clear A40
 by_cases c5 : t285 = 0
 ·rw [if_pos c5] at H
  exact absurd H (by simp)
 rw [if_neg c5] at H
 have c5b0 : (t285 == 0) = false := beq_eq_false_iff_ne.mpr c5
 have c5b1 : (t285 != 0) = true := bne_iff_ne.mpr c5
 simp only [Option.some.injEq, Prod.mk.injEq] at H
 obtain ⟨rfl, rfl⟩ := H
 go_enter Try.func32, Try.ntmps32
 try go_wp2_with (first | ((with_reducible refine gate_dst (N := 4) rfl ?_); refine box_event ?hg (N := 4) ?hd (cs := #[.int .i64 0, .int .i64 0]) (t := 24) ?hr ?_; (case hd => rfl); (case hg => rfl); (case hr => first | (go_simp; done) | (go_simp; rfl)); intro gb284 hg w6 hbox hb; have n0_ := mk_ (below_step (bb_ HB) hb); have n1_ := mk_ (hbox); have n2_ := mk_ (bz_ hg (bb_ HB)); have n3_ := mk_ (bz_ hg (bb_ HB)); clear HB; revert n0_ n1_ n2_ n3_; intro HB BK284 GW284 GE284; clear hb hbox hg) | ((with_reducible refine gate_callee (f := 55) rfl ?_); refine gl_ (some 14) Try.func55 #[.int .i64 (wrap64 (-a0)), .int .i64 a1] ?_; (with_reducible refine (cohousingref05_gcd.calls k (wrap64 (-a0)) a1 t285 _ A4.out).mono ?_); rintro e w' ⟨rfl, ⟨nd, rfl⟩⟩; refine ⟨_, rfl, ?_⟩; (try (rw [drewN_self w6]; generalize hq_ : World.drewN w6 _ = w6; have n0_ : Aside0 (w6.heap[gb284]? = some (.cells #[.int .i64 0, .int .i64 0] 24 (0, 0))) := ⟨by rw [← hq_]; exact (kk_ BK284)⟩; have n1_ : Aside0 (Below w.heap.size w w6) := ⟨by rw [← hq_]; exact (bs_ HB GE284.out)⟩; clear BK284 HB hq_; revert n0_ n1_; intro BK284 HB))))
 have n0_ := mk_ (blk_drew BK284.out)
 have n1_ := mk_ (below_drew1 HB.out)
 clear BK284
 clear HB
 have BK284 := n0_
 have HB := n1_
 clear n0_ n1_
 refine start_ (n := 8) (S := fun w' => True) (ds := []) #[n_, n_, n_, n_, n_, n_, n_, n_] (by kernel_rfl) rfl rfl trivial (fun hHeld => ?_); refine with_tabW cohousingref05_Reduce.tab5 cohousingref05_Reduce.bits5 (fun HT_ HW_ => ?_)
 generalize w6.drew = w7 at BK284 HB hHeld ⊢
 refine pu_ 0 15 (w_ 8 1) rfl HT_ ?_
 refine pu_ 1 16 (w_ 8 3) rfl HT_ ?_
 refine pu_ 2 17 (w_ 8 7) rfl HT_ ?_
 refine pu_ 3 18 (w_ 8 15) rfl HT_ ?_
 refine pu_ 4 19 (w_ 8 31) rfl HT_ ?_
 refine pu_ 5 20 (w_ 8 63) rfl HT_ ?_
 refine pu_ 6 21 (w_ 8 127) rfl HT_ ?_
 refine one_ (i := 7) (N := none) (w_ 8 255) rfl rfl (one_of HT_.out (by kernel_rfl)) (by decide) (fun K hK => ?_)
 have hs8 : w7.cell? ⟨gb284, 0, none⟩ = some (.int .i64 0) := (blk_cell BK284.out 0).trans rfl
 have hfs8 := blk_frozen BK284.out 0
 have hs9 : w7.cell? ⟨gb284, 1, none⟩ = some (.int .i64 0) := (blk_cell BK284.out 1).trans rfl
 have hfs9 := blk_frozen BK284.out 1
 refine skip_ (w1 := ?_) (by rfl) rfl ?_ ?_
 rotate_left
 ·go_simp
  rfl
 refine hK.out _ _ trivial (fun hHeld => ?_)
 clear hK K
 refine done_ (done_of HT_.out (by kernel_rfl)) ?_
 try go_wp2
 refine bodyPost_ret (results_cell_row rfl _ _ gb284 24 #[.int .i64 (wrap64 (Int.tdiv a0 t285)), .int .i64 (wrap64 (Int.tdiv a1 t285))] (0, 0) _ rfl (by (with_reducible repeat (first | refine blk_drewN ?_ _ | refine blk_drew ?_ | refine blk_alloc ?_ _)); refine blk_put (cs := #[.int .i64 (wrap64 (Int.tdiv a0 t285)), .int .i64 0]) ?_ 1 _ rfl; (with_reducible repeat (first | refine blk_drewN ?_ _ | refine blk_drew ?_ | refine blk_alloc ?_ _)); refine blk_put (cs := #[.int .i64 0, .int .i64 0]) ?_ 0 _ rfl; (with_reducible repeat (first | refine blk_drewN ?_ _ | refine blk_drew ?_ | refine blk_alloc ?_ _)); exact BK284.out) Try.underlying24 rfl (by kernel_rfl)) rfl ?_
 exact ⟨ew_, bs1_ HB GE284⟩
end
section
def cohousingref05_Line.f (k : Nat) (a0_0 : Int) (a0_1 : Int) (a0_2 : Int) (a0_3 : Int) (a0_4 : Int) (a1 : Int) : Option (Int × Int) := (cohousingref05_Reduce.f k (wrap64 ((wrap64 (a0_1 * a0_4)) + (wrap64 ((wrap64 (a0_3 * (wrap64 (a1 - a0_0)))) * a0_2)))) (wrap64 (a0_2 * a0_4))).bind fun bt289 => (some (bt289.1, bt289.2))
theorem cohousingref05_Line.calls (k : Nat) (a0_0 : Int) (a0_1 : Int) (a0_2 : Int) (a0_3 : Int) (a0_4 : Int) (a1 : Int) (r1 : Int) (r2 : Int) (w : World) (h : cohousingref05_Line.f k a0_0 a0_1 a0_2 a0_3 a0_4 a1 = some (r1, r2)) :
  Calls Try.prog 44 #[.agg #[.int .i64 a0_0, .int .i64 a0_1, .int .i64 a0_2, .int .i64 a0_3, .int .i64 a0_4], .int .i64 a1] w fun e w' => e = .returned (.agg #[.int .i64 r1, .int .i64 r2]) ∧ Below w.heap.size w w' := by
 have hu51 := Try.underlying51
 have hu24 := Try.underlying24
 have HB := mk_ (Below.refl w.heap.size w)
 have H : ((cohousingref05_Reduce.f k (wrap64 ((wrap64 (a0_1 * a0_4)) + (wrap64 ((wrap64 (a0_3 * (wrap64 (a1 - a0_0)))) * a0_2)))) (wrap64 (a0_2 * a0_4))).bind fun bt289 => (some (bt289.1, bt289.2))) = some (r1, r2) := h
 clear h
 replace H := Option.bind_eq_some_iff.mp H
 obtain ⟨⟨t289, t290⟩, A30, H⟩ := H
 replace H : (some (t289, t290)) = some (r1, r2) := H
 have A3 := mk_ A30
 clear A30
 simp only [Option.some.injEq, Prod.mk.injEq] at H
 obtain ⟨rfl, rfl⟩ := H
 go_enter Try.func44, Try.ntmps44
 go_wp2_with (first | ((with_reducible refine gate_dst (N := 2) rfl ?_); refine box_event ?hg (N := 2) ?hd (cs := #[.int .i64 a0_0, .int .i64 a0_1, .int .i64 a0_2, .int .i64 a0_3, .int .i64 a0_4]) (t := 51) ?hr ?_; (case hd => rfl); (case hg => rfl); (case hr => first | (go_simp; done) | (go_simp; rfl)); intro gb287 hg w4 hbox hb; have n0_ := mk_ (below_step (bb_ HB) hb); have n1_ := mk_ (hbox); have n2_ := mk_ (bz_ hg (bb_ HB)); have n3_ := mk_ (bz_ hg (bb_ HB)); clear HB; revert n0_ n1_ n2_ n3_; intro HB BK287 GW287 GE287; clear hb hbox hg) | ((with_reducible refine gate_dst (N := 4) rfl ?_); refine box_event ?hg (N := 4) ?hd (cs := #[.int .i64 0, .int .i64 0]) (t := 24) ?hr ?_; (case hd => rfl); (case hg => rfl); (case hr => first | (go_simp; done) | (go_simp; rfl)); intro gb288 hg w5 hbox hb; have n0_ := mk_ (blk_below (kk_ BK287) hb); have n1_ := mk_ (below_step (bs_ HB GE287.out) hb); have n2_ := mk_ (hbox); have n3_ := mk_ (bz_ hg (bs_ HB GE287.out)); have n4_ := mk_ (bz_ hg (bs_ HB GE287.out)); have n5_ := mk_ (bl_ hg (kk_ BK287)); have n6_ := mk_ (bg_ hg (kk_ BK287)); clear BK287 HB; revert n0_ n1_ n2_ n3_ n4_ n5_ n6_; intro BK287 HB BK288 GW288 GE288 NB287_288 NB288_287; clear hb hbox hg; have hnb6 := NB287_288.out; have hnc6 := NB288_287.out; have hcz7_0 := bc0_ BK287.out; have hcz7_1 := bc1_ BK287.out; have hcz7_2 := bc2_ BK287.out; have hcz7_3 : w5.cell? ⟨gb287, 3, none⟩ = some (.int .i64 a0_3) := (blk_cell BK287.out 3).trans rfl; have hcz7_4 : w5.cell? ⟨gb287, 4, none⟩ = some (.int .i64 a0_4) := (blk_cell BK287.out 4).trans rfl; have hfz7_0 := blk_frozen BK287.out 0; have hfz7_1 := blk_frozen BK287.out 1; have hfz7_2 := blk_frozen BK287.out 2; have hfz7_3 := blk_frozen BK287.out 3; have hfz7_4 := blk_frozen BK287.out 4) | ((with_reducible refine gate_callee (f := 32) rfl ?_); refine gl_ (some 34) Try.func32 #[.int .i64 (wrap64 ((wrap64 (a0_1 * a0_4)) + (wrap64 ((wrap64 (a0_3 * (wrap64 (a1 - a0_0)))) * a0_2)))), .int .i64 (wrap64 (a0_2 * a0_4))] ?_; (with_reducible refine (cohousingref05_Reduce.calls k (wrap64 ((wrap64 (a0_1 * a0_4)) + (wrap64 ((wrap64 (a0_3 * (wrap64 (a1 - a0_0)))) * a0_2)))) (wrap64 (a0_2 * a0_4)) t289 t290 _ A3.out).mono ?_); rintro e w8 ⟨rfl, hb⟩; refine ⟨_, rfl, ?_⟩; have n0_ := mk_ (blk_below (kk_ BK287) hb); have n1_ := mk_ (blk_below (kk_ BK288) hb); have n2_ := mk_ (below_step (bs2_ HB GE287 GE288) hb); clear BK287 BK288 HB; revert n0_ n1_ n2_; intro BK287 BK288 HB; (try clear hb); (try clear hb2); (try clear hk); (try clear hi); have hcz9_0 := bc0_ BK288.out; have hcz9_1 := bc1_ BK288.out; have hfz9_0 := blk_frozen BK288.out 0; have hfz9_1 := blk_frozen BK288.out 1))
 refine bodyPost_ret (results_cell_row rfl _ _ gb288 24 #[.int .i64 t289, .int .i64 t290] (0, 0) _ rfl (by (with_reducible repeat (first | refine blk_drewN ?_ _ | refine blk_drew ?_ | refine blk_alloc ?_ _)); refine blk_put (cs := #[.int .i64 t289, .int .i64 0]) ?_ 1 _ rfl; (with_reducible repeat (first | refine blk_drewN ?_ _ | refine blk_drew ?_ | refine blk_alloc ?_ _)); refine blk_put (cs := #[.int .i64 0, .int .i64 0]) ?_ 0 _ rfl; (with_reducible repeat (first | refine blk_drewN ?_ _ | refine blk_drew ?_ | refine blk_alloc ?_ _)); exact BK288.out) Try.underlying24 rfl (by kernel_rfl)) rfl ?_
 exact ⟨ew_, bs2_ HB GE287 GE288⟩
end
section
def cohousingref05_Value.f (k : Nat) (l0 : List (S51)) (a1 : Int) : Option (Int × Int) := (cohousingref05_Piece.f k l0 a1).bind fun bt292 => ((cohousingref05_Line.f k bt292.1 bt292.2.1 bt292.2.2.1 bt292.2.2.2.1 bt292.2.2.2.2 a1).bind fun bt297 => (some (bt297.1, bt297.2)))
theorem cohousingref05_Value.calls (k : Nat) (A0 : Option Addr) (c0 : Nat) (l0 : List (S51)) (a1 : Int) (r1 : Int) (r2 : Int) (w : World) (hr0 : Kd.C k51 w A0 l0.length l0) (hc0 : l0.length ≤ c0) (h : cohousingref05_Value.f k l0 a1 = some (r1, r2)) :
  Calls Try.prog 27 #[.slice A0 l0.length c0, .int .i64 a1] w fun e w' => e = .returned (.agg #[.int .i64 r1, .int .i64 r2]) ∧ Below w.heap.size w w' := by
 have hu24 := Try.underlying24
 have HR0 := mk_ hr0
 have HC0 := mk_ hc0
 clear hr0 hc0
 have HB := mk_ (Below.refl w.heap.size w)
 have H : ((cohousingref05_Piece.f k l0 a1).bind fun bt292 => ((cohousingref05_Line.f k bt292.1 bt292.2.1 bt292.2.2.1 bt292.2.2.2.1 bt292.2.2.2.2 a1).bind fun bt297 => (some (bt297.1, bt297.2)))) = some (r1, r2) := h
 clear h
 replace H := Option.bind_eq_some_iff.mp H
 obtain ⟨⟨t292, t293, t294, t295, t296⟩, A30, H⟩ := H
 replace H : ((cohousingref05_Line.f k t292 t293 t294 t295 t296 a1).bind fun bt297 => (some (bt297.1, bt297.2))) = some (r1, r2) := H
 have A3 := mk_ A30
 clear A30
 replace H := Option.bind_eq_some_iff.mp H
 obtain ⟨⟨t297, t298⟩, A40, H⟩ := H
 replace H : (some (t297, t298)) = some (r1, r2) := H
 have A4 := mk_ A40
 clear A40
 simp only [Option.some.injEq, Prod.mk.injEq] at H
 obtain ⟨rfl, rfl⟩ := H
 go_enter Try.func27, Try.ntmps27
 go_wp2_with (first | ((with_reducible refine gate_dst (N := 4) rfl ?_); refine box_event ?hg (N := 4) ?hd (cs := #[.int .i64 0, .int .i64 0]) (t := 24) ?hr ?_; (case hd => rfl); (case hg => rfl); (case hr => first | (go_simp; done) | (go_simp; rfl)); intro gb291 hg w5 hbox hb; have n0_ := mk_ (below_step (bb_ HB) hb); have n1_ := mk_ (hbox); have n2_ := mk_ (bz_ hg (bb_ HB)); have n3_ := mk_ (bz_ hg (bb_ HB)); clear HB; revert n0_ n1_ n2_ n3_; intro HB BK291 GW291 GE291; clear hb hbox hg) | ((with_reducible refine gate_callee (f := 43) rfl ?_); refine gl_ (some 7) Try.func43 #[.slice A0 l0.length c0, .int .i64 a1] ?_; (with_reducible refine (cohousingref05_Piece.calls k _ _ l0 a1 t292 t293 t294 t295 t296 _ ?side1 ?side2 A3.out).mono ?_); (case side1 => exact cc_ ((Kd.C_below HR0.out HB.out))); (case side2 => exact HC0.out); rintro e w6 ⟨rfl, hb⟩; refine ⟨_, rfl, ?_⟩; have n0_ := mk_ (blk_below (kk_ BK291) hb); have n1_ := mk_ (below_step (bs_ HB GE291.out) hb); clear BK291 HB; revert n0_ n1_; intro BK291 HB; (try clear hb); (try clear hb2); (try clear hk); (try clear hi)) | ((with_reducible refine gate_callee (f := 44) rfl ?_); refine gl_ (some 9) Try.func44 #[.agg #[.int .i64 t292, .int .i64 t293, .int .i64 t294, .int .i64 t295, .int .i64 t296], .int .i64 a1] ?_; (with_reducible refine (cohousingref05_Line.calls k t292 t293 t294 t295 t296 a1 t297 t298 _ A4.out).mono ?_); rintro e w7 ⟨rfl, hb⟩; refine ⟨_, rfl, ?_⟩; have n0_ := mk_ (blk_below (kk_ BK291) hb); have n1_ := mk_ (below_step (bs_ HB GE291.out) hb); clear BK291 HB; revert n0_ n1_; intro BK291 HB; (try clear hb); (try clear hb2); (try clear hk); (try clear hi); have hcz8_0 := bc0_ BK291.out; have hcz8_1 := bc1_ BK291.out; have hfz8_0 := blk_frozen BK291.out 0; have hfz8_1 := blk_frozen BK291.out 1))
 refine bodyPost_ret (results_cell_row rfl _ _ gb291 24 #[.int .i64 t297, .int .i64 t298] (0, 0) _ rfl (by (with_reducible repeat (first | refine blk_drewN ?_ _ | refine blk_drew ?_ | refine blk_alloc ?_ _)); refine blk_put (cs := #[.int .i64 t297, .int .i64 0]) ?_ 1 _ rfl; (with_reducible repeat (first | refine blk_drewN ?_ _ | refine blk_drew ?_ | refine blk_alloc ?_ _)); refine blk_put (cs := #[.int .i64 0, .int .i64 0]) ?_ 0 _ rfl; (with_reducible repeat (first | refine blk_drewN ?_ _ | refine blk_drew ?_ | refine blk_alloc ?_ _)); exact BK291.out) Try.underlying24 rfl (by kernel_rfl)) rfl ?_
 exact ⟨ew_, bs1_ HB GE291⟩
end
section
def cohousingref05_Sum.f (k : Nat) (a0_0 : Int) (a0_1 : Int) (a1_0 : Int) (a1_1 : Int) : Option (Int × Int) := (cohousingref05_Reduce.f k (wrap64 ((wrap64 (a0_0 * a1_1)) + (wrap64 (a1_0 * a0_1)))) (wrap64 (a0_1 * a1_1))).bind fun bt308 => (some (bt308.1, bt308.2))
theorem cohousingref05_Sum.calls (k : Nat) (a0_0 : Int) (a0_1 : Int) (a1_0 : Int) (a1_1 : Int) (r1 : Int) (r2 : Int) (w : World) (h : cohousingref05_Sum.f k a0_0 a0_1 a1_0 a1_1 = some (r1, r2)) :
  Calls Try.prog 28 #[.agg #[.int .i64 a0_0, .int .i64 a0_1], .agg #[.int .i64 a1_0, .int .i64 a1_1]] w fun e w' => e = .returned (.agg #[.int .i64 r1, .int .i64 r2]) ∧ Below w.heap.size w w' := by
 have hu24 := Try.underlying24
 have HB := mk_ (Below.refl w.heap.size w)
 have H : ((cohousingref05_Reduce.f k (wrap64 ((wrap64 (a0_0 * a1_1)) + (wrap64 (a1_0 * a0_1)))) (wrap64 (a0_1 * a1_1))).bind fun bt308 => (some (bt308.1, bt308.2))) = some (r1, r2) := h
 clear h
 replace H := Option.bind_eq_some_iff.mp H
 obtain ⟨⟨t308, t309⟩, A30, H⟩ := H
 replace H : (some (t308, t309)) = some (r1, r2) := H
 have A3 := mk_ A30
 clear A30
 simp only [Option.some.injEq, Prod.mk.injEq] at H
 obtain ⟨rfl, rfl⟩ := H
 go_enter Try.func28, Try.ntmps28
 go_wp2_with (first | ((with_reducible refine gate_dst (N := 2) rfl ?_); refine box_event ?hg (N := 2) ?hd (cs := #[.int .i64 a0_0, .int .i64 a0_1]) (t := 24) ?hr ?_; (case hd => rfl); (case hg => rfl); (case hr => first | (go_simp; done) | (go_simp; rfl)); intro gb305 hg w4 hbox hb; have n0_ := mk_ (below_step (bb_ HB) hb); have n1_ := mk_ (hbox); have n2_ := mk_ (bz_ hg (bb_ HB)); have n3_ := mk_ (bz_ hg (bb_ HB)); clear HB; revert n0_ n1_ n2_ n3_; intro HB BK305 GW305 GE305; clear hb hbox hg) | ((with_reducible refine gate_dst (N := 3) rfl ?_); refine box_event ?hg (N := 3) ?hd (cs := #[.int .i64 a1_0, .int .i64 a1_1]) (t := 24) ?hr ?_; (case hd => rfl); (case hg => rfl); (case hr => first | (go_simp; done) | (go_simp; rfl)); intro gb306 hg w5 hbox hb; have n0_ := mk_ (blk_below (kk_ BK305) hb); have n1_ := mk_ (below_step (bs_ HB GE305.out) hb); have n2_ := mk_ (hbox); have n3_ := mk_ (bz_ hg (bs_ HB GE305.out)); have n4_ := mk_ (bz_ hg (bs_ HB GE305.out)); have n5_ := mk_ (bl_ hg (kk_ BK305)); have n6_ := mk_ (bg_ hg (kk_ BK305)); clear BK305 HB; revert n0_ n1_ n2_ n3_ n4_ n5_ n6_; intro BK305 HB BK306 GW306 GE306 NB305_306 NB306_305; clear hb hbox hg) | ((with_reducible refine gate_dst (N := 4) rfl ?_); refine box_event ?hg (N := 4) ?hd (cs := #[.int .i64 0, .int .i64 0]) (t := 24) ?hr ?_; (case hd => rfl); (case hg => rfl); (case hr => first | (go_simp; done) | (go_simp; rfl)); intro gb307 hg w6 hbox hb; have n0_ := mk_ (blk_below (kk_ BK305) hb); have n1_ := mk_ (blk_below (kk_ BK306) hb); have n2_ := mk_ (below_step (bs2_ HB GE305 GE306) hb); have n3_ := mk_ (hbox); have n4_ := mk_ (bz_ hg (bs2_ HB GE305 GE306)); have n5_ := mk_ (bz_ hg (bs2_ HB GE305 GE306)); have n6_ := mk_ (bl_ hg (kk_ BK305)); have n7_ := mk_ (bg_ hg (kk_ BK305)); have n8_ := mk_ (bl_ hg (kk_ BK306)); have n9_ := mk_ (bg_ hg (kk_ BK306)); clear BK305 BK306 HB; revert n0_ n1_ n2_ n3_ n4_ n5_ n6_ n7_ n8_ n9_; intro BK305 BK306 HB BK307 GW307 GE307 NB305_307 NB307_305 NB306_307 NB307_306; clear hb hbox hg; have hnb7 := NB305_306.out; have hnc7 := NB306_305.out; have hnb8 := NB305_307.out; have hnc8 := NB307_305.out; have hcz9_0 := bc0_ BK305.out; have hcz9_1 := bc1_ BK305.out; have hfz9_0 := blk_frozen BK305.out 0; have hfz9_1 := blk_frozen BK305.out 1; have hnb10 := NB306_307.out; have hnc10 := NB307_306.out; have hcz11_0 := bc0_ BK306.out; have hcz11_1 := bc1_ BK306.out; have hfz11_0 := blk_frozen BK306.out 0; have hfz11_1 := blk_frozen BK306.out 1) | ((with_reducible refine gate_callee (f := 32) rfl ?_); refine gl_ (some 21) Try.func32 #[.int .i64 (wrap64 ((wrap64 (a0_0 * a1_1)) + (wrap64 (a1_0 * a0_1)))), .int .i64 (wrap64 (a0_1 * a1_1))] ?_; (with_reducible refine (cohousingref05_Reduce.calls k (wrap64 ((wrap64 (a0_0 * a1_1)) + (wrap64 (a1_0 * a0_1)))) (wrap64 (a0_1 * a1_1)) t308 t309 _ A3.out).mono ?_); rintro e w12 ⟨rfl, hb⟩; refine ⟨_, rfl, ?_⟩; have n0_ := mk_ (blk_below (kk_ BK305) hb); have n1_ := mk_ (blk_below (kk_ BK306) hb); have n2_ := mk_ (blk_below (kk_ BK307) hb); have n3_ := mk_ (below_step (bs3_ HB GE305 GE306 GE307) hb); clear BK305 BK306 BK307 HB; revert n0_ n1_ n2_ n3_; intro BK305 BK306 BK307 HB; (try clear hb); (try clear hb2); (try clear hk); (try clear hi); have hcz13_0 := bc0_ BK307.out; have hcz13_1 := bc1_ BK307.out; have hfz13_0 := blk_frozen BK307.out 0; have hfz13_1 := blk_frozen BK307.out 1))
 refine bodyPost_ret (results_cell_row rfl _ _ gb307 24 #[.int .i64 t308, .int .i64 t309] (0, 0) _ rfl (by (with_reducible repeat (first | refine blk_drewN ?_ _ | refine blk_drew ?_ | refine blk_alloc ?_ _)); refine blk_put (cs := #[.int .i64 t308, .int .i64 0]) ?_ 1 _ rfl; (with_reducible repeat (first | refine blk_drewN ?_ _ | refine blk_drew ?_ | refine blk_alloc ?_ _)); refine blk_put (cs := #[.int .i64 0, .int .i64 0]) ?_ 0 _ rfl; (with_reducible repeat (first | refine blk_drewN ?_ _ | refine blk_drew ?_ | refine blk_alloc ?_ _)); exact BK307.out) Try.underlying24 rfl (by kernel_rfl)) rfl ?_
 exact ⟨ew_, bs3_ HB GE305 GE306 GE307⟩
end
section
def cohousinglaw05_few.f (l0 : List (S51)) : Option (Bool) := some (decide ((l0.length : Int) ≤ 70))
theorem cohousinglaw05_few.calls (A0 : Option Addr) (c0 : Nat) (l0 : List (S51)) (r : Bool) (w : World) (hr0 : Kd.C k51 w A0 l0.length l0) (hc0 : l0.length ≤ c0) (h : cohousinglaw05_few.f l0 = some r) :
  Calls Try.prog 11 #[.slice A0 l0.length c0] w fun e w' => e = .returned (.bool r) ∧ Drawn0 w w' := by
 have HR0 := mk_ hr0
 have HC0 := mk_ hc0
 clear hr0 hc0
 have H : (some (decide ((l0.length : Int) ≤ 70))) = some r := h
 clear h
 obtain rfl := Option.some.inj H
 go_enter Try.func11, Try.ntmps11
 go_wp2
 go_ret
 exact ⟨by first | rfl | (simp; done) | (simp [*]; done), by repeat (first | exact Drawn0.refl _ | apply Drawn0.step)⟩
end
section
def cohousinglaw05_both.f (k : Nat) (l0 : List (S51)) (l1 : List (S51)) : Option (Bool) := (cohousinglaw05_few.f l0).bind fun t541 => (if t541 = true then ((cohousinglaw05_few.f l1).bind fun t542 => (if t542 = true then ((cohousingref05_Valid.f k l0).bind fun t543 => (if t543 = true then ((cohousingref05_Valid.f k l1).bind fun t544 => (some t544)) else (some false))) else (some false))) else (some false))
theorem cohousinglaw05_both.calls (k : Nat) (A0 : Option Addr) (c0 : Nat) (l0 : List (S51)) (A1 : Option Addr) (c1 : Nat) (l1 : List (S51)) (r : Bool) (w : World) (hr0 : Kd.C k51 w A0 l0.length l0) (hc0 : l0.length ≤ c0) (hr1 : Kd.C k51 w A1 l1.length l1) (hc1 : l1.length ≤ c1) (h : cohousinglaw05_both.f k l0 l1 = some r) :
  Calls Try.prog 25 #[.slice A0 l0.length c0, .slice A1 l1.length c1] w fun e w' => e = .returned (.bool r) ∧ Below w.heap.size w w' := by
 have HR0 := mk_ hr0
 have HC0 := mk_ hc0
 clear hr0 hc0
 have HR1 := mk_ hr1
 have HC1 := mk_ hc1
 clear hr1 hc1
 have HB := mk_ (Below.refl w.heap.size w)
 have H : ((cohousinglaw05_few.f l0).bind fun t541 => (if t541 = true then ((cohousinglaw05_few.f l1).bind fun t542 => (if t542 = true then ((cohousingref05_Valid.f k l0).bind fun t543 => (if t543 = true then ((cohousingref05_Valid.f k l1).bind fun t544 => (some t544)) else (some false))) else (some false))) else (some false))) = some r := h
 clear h
 replace H := Option.bind_eq_some_iff.mp H
 obtain ⟨t541, A30, H⟩ := H
 replace H : (if t541 = true then ((cohousinglaw05_few.f l1).bind fun t542 => (if t542 = true then ((cohousingref05_Valid.f k l0).bind fun t543 => (if t543 = true then ((cohousingref05_Valid.f k l1).bind fun t544 => (some t544)) else (some false))) else (some false))) else (some false)) = some r := H
 have A3 := mk_ A30
 clear A30
 by_cases c4 : t541 = true
 rotate_left
 ·replace c4 := Bool.eq_false_iff.mpr c4
  subst c4
  have H1 : (some false) = some r := by rw [if_neg (show ¬ (false = true) by decide)] at H; exact H
  clear H
  have H := H1
  clear H1
  obtain rfl := Option.some.inj H
  go_enter Try.func25, Try.ntmps25
  go_wp2_with (first | ((with_reducible refine gate_callee (f := 11) rfl ?_); refine gl_ (some 6) Try.func11 #[.slice A0 l0.length c0] ?_; (with_reducible refine (cohousinglaw05_few.calls _ _ l0 false _ ?side1 ?side2 A3.out).mono ?_); (case side1 => exact cc_ (HR0.out)); (case side2 => exact HC0.out); rintro e w' ⟨rfl, ⟨nd, rfl⟩⟩; refine ⟨_, rfl, ?_⟩))
  go_ret
  exact ⟨ew_, bb_ HB⟩
 subst c4
 have H1 : ((cohousinglaw05_few.f l1).bind fun t542 => (if t542 = true then ((cohousingref05_Valid.f k l0).bind fun t543 => (if t543 = true then ((cohousingref05_Valid.f k l1).bind fun t544 => (some t544)) else (some false))) else (some false))) = some r := by rw [if_pos rfl] at H; exact H
 clear H
 have H := H1
 clear H1
 replace H := Option.bind_eq_some_iff.mp H
 obtain ⟨t542, A50, H⟩ := H
 replace H : (if t542 = true then ((cohousingref05_Valid.f k l0).bind fun t543 => (if t543 = true then ((cohousingref05_Valid.f k l1).bind fun t544 => (some t544)) else (some false))) else (some false)) = some r := H
 have A5 := mk_ A50
 clear A50
 by_cases c6 : t542 = true
 rotate_left
 ·replace c6 := Bool.eq_false_iff.mpr c6
  subst c6
  have H1 : (some false) = some r := by rw [if_neg (show ¬ (false = true) by decide)] at H; exact H
  clear H
  have H := H1
  clear H1
  obtain rfl := Option.some.inj H
  go_enter Try.func25, Try.ntmps25
  go_wp2_with (first | ((with_reducible refine gate_callee (f := 11) rfl ?_); refine gl_ (some 6) Try.func11 #[.slice A0 l0.length c0] ?_; (with_reducible refine (cohousinglaw05_few.calls _ _ l0 true _ ?side1 ?side2 A3.out).mono ?_); (case side1 => exact cc_ (HR0.out)); (case side2 => exact HC0.out); rintro e w' ⟨rfl, ⟨nd, rfl⟩⟩; refine ⟨_, rfl, ?_⟩) | (go_at_call 11; (with_reducible refine (cohousinglaw05_few.calls _ _ l1 false _ ?side1 ?side2 A5.out).mono ?_); (case side1 => exact cc_ (HR1.out)); (case side2 => exact HC1.out); rintro e w' ⟨rfl, ⟨nd, rfl⟩⟩))
  go_ret
  exact ⟨ew_, bb_ HB⟩
 subst c6
 have H1 : ((cohousingref05_Valid.f k l0).bind fun t543 => (if t543 = true then ((cohousingref05_Valid.f k l1).bind fun t544 => (some t544)) else (some false))) = some r := by rw [if_pos rfl] at H; exact H
 clear H
 have H := H1
 clear H1
 replace H := Option.bind_eq_some_iff.mp H
 obtain ⟨t543, A70, H⟩ := H
 replace H : (if t543 = true then ((cohousingref05_Valid.f k l1).bind fun t544 => (some t544)) else (some false)) = some r := H
 have A7 := mk_ A70
 clear A70
 by_cases c8 : t543 = true
 rotate_left
 ·replace c8 := Bool.eq_false_iff.mpr c8
  subst c8
  have H1 : (some false) = some r := by rw [if_neg (show ¬ (false = true) by decide)] at H; exact H
  clear H
  have H := H1
  clear H1
  obtain rfl := Option.some.inj H
  go_enter Try.func25, Try.ntmps25
  go_wp2_with (first | ((with_reducible refine gate_callee (f := 11) rfl ?_); refine gl_ (some 6) Try.func11 #[.slice A0 l0.length c0] ?_; (with_reducible refine (cohousinglaw05_few.calls _ _ l0 true _ ?side1 ?side2 A3.out).mono ?_); (case side1 => exact cc_ (HR0.out)); (case side2 => exact HC0.out); rintro e w' ⟨rfl, ⟨nd, rfl⟩⟩; refine ⟨_, rfl, ?_⟩) | (go_at_call 11; (with_reducible refine (cohousinglaw05_few.calls _ _ l1 true _ ?side1 ?side2 A5.out).mono ?_); (case side1 => exact cc_ (HR1.out)); (case side2 => exact HC1.out); rintro e w' ⟨rfl, ⟨nd, rfl⟩⟩) | (go_at_call 15; (with_reducible refine (cohousingref05_Valid.calls k _ _ l0 false _ ?side1 ?side2 A7.out).mono ?_); (case side1 => exact cc_ (HR0.out)); (case side2 => exact HC0.out); rintro e w12 ⟨rfl, hb⟩; have n0_ := mk_ (below_step (bb_ HB) hb); clear HB; revert n0_; intro HB; (try clear hb); (try clear hb2); (try clear hk); (try clear hi)))
  go_ret
  exact ⟨ew_, bb_ HB⟩
 subst c8
 have H1 : ((cohousingref05_Valid.f k l1).bind fun t544 => (some t544)) = some r := by rw [if_pos rfl] at H; exact H
 clear H
 have H := H1
 clear H1
 replace H := Option.bind_eq_some_iff.mp H
 obtain ⟨t544, A90, H⟩ := H
 replace H : (some t544) = some r := H
 have A9 := mk_ A90
 clear A90
 obtain rfl := Option.some.inj H
 go_enter Try.func25, Try.ntmps25
 go_wp2_with (first | ((with_reducible refine gate_callee (f := 11) rfl ?_); refine gl_ (some 6) Try.func11 #[.slice A0 l0.length c0] ?_; (with_reducible refine (cohousinglaw05_few.calls _ _ l0 true _ ?side1 ?side2 A3.out).mono ?_); (case side1 => exact cc_ (HR0.out)); (case side2 => exact HC0.out); rintro e w' ⟨rfl, ⟨nd, rfl⟩⟩; refine ⟨_, rfl, ?_⟩) | (go_at_call 11; (with_reducible refine (cohousinglaw05_few.calls _ _ l1 true _ ?side1 ?side2 A5.out).mono ?_); (case side1 => exact cc_ (HR1.out)); (case side2 => exact HC1.out); rintro e w' ⟨rfl, ⟨nd, rfl⟩⟩) | (go_at_call 15; (with_reducible refine (cohousingref05_Valid.calls k _ _ l0 true _ ?side1 ?side2 A7.out).mono ?_); (case side1 => exact cc_ (HR0.out)); (case side2 => exact HC0.out); rintro e w10 ⟨rfl, hb⟩; have n0_ := mk_ (below_step (bb_ HB) hb); clear HB; revert n0_; intro HB; (try clear hb); (try clear hb2); (try clear hk); (try clear hi)) | (go_at_call 15; (with_reducible refine (cohousingref05_Valid.calls k _ _ l1 t544 _ ?side1 ?side2 A9.out).mono ?_); (case side1 => exact cc_ ((Kd.C_below HR1.out HB.out))); (case side2 => exact HC1.out); rintro e w11 ⟨rfl, hb⟩; have n0_ := mk_ (below_step (bb_ HB) hb); clear HB; revert n0_; intro HB; (try clear hb); (try clear hb2); (try clear hk); (try clear hi)))
 go_ret
 exact ⟨ew_, bb_ HB⟩
end
section
def cohousinglaw05_place.f (a0 : Int) : Option (Int) := some (wrap64 (Int.tmod a0 100001))
theorem cohousinglaw05_place.calls (a0 : Int) (r : Int) (w : World) (h : cohousinglaw05_place.f a0 = some r) :
  Calls Try.prog 26 #[.int .u32 a0] w fun e w' => e = .returned (.int .i64 r) ∧ Drawn0 w w' := by
 have H : (some (wrap64 (Int.tmod a0 100001))) = some r := h
 clear h
 obtain rfl := Option.some.inj H
 go_enter Try.func26, Try.ntmps26
 go_wp2
 go_ret
 exact ⟨by first | rfl | (simp; done) | (simp [*]; done), by repeat (first | exact Drawn0.refl _ | apply Drawn0.step)⟩
end
section
attribute [local go_sem high] eqA24
def cohousingref05_continues.f (k : Nat) (a0_0 : Int) (a0_1 : Int) (a0_2 : Int) (a0_3 : Int) (a0_4 : Int) (a1_0 : Int) (a1_1 : Int) (a1_2 : Int) (a1_3 : Int) (a1_4 : Int) : Option (Bool) := if (a0_3 == a1_3 && (a0_4 == a1_4)) = true then ((cohousingref05_Line.f k a0_0 a0_1 a0_2 a0_3 a0_4 a1_0).bind fun bt323 => (some (bt323.1 == a1_1 && (bt323.2 == a1_2)))) else (some false)
def cohousingref05_continues.T1 : Bool × List (List Nat × List Nat) := (true, [([], []), ([0], [0]), ([], []), ([2], [2]), ([1, 3], [1, 3]), ([4], [4]), ([5], [5]), ([5], [5]), ([7, 5], [5, 7]), ([6, 8, 5, 5], [5, 6, 8]), ([5], [5]), ([10, 5], [5, 10]), ([9, 11, 5], [5, 9, 11]), ([5, 12], [5, 12]), ([13, 9, 0, 1, 2, 3, 4, 5, 6, 7, 8, 9, 10, 11, 12, 13], [13])])
def cohousingref05_continues.B1 : List Nat := [0, 1, 0, 4, 15, 31, 63, 63, 191, 511, 63, 1087, 4095, 8191, 16383]
theorem cohousingref05_continues.tab1 : rtab .any (opsOf Try.f48 1) = cohousingref05_continues.T1 := by kernel_rfl
theorem cohousingref05_continues.bits1 : waitsOk cohousingref05_continues.T1.2 cohousingref05_continues.B1 = true := by kernel_rfl
theorem cohousingref05_continues.calls (k : Nat) (a0_0 : Int) (a0_1 : Int) (a0_2 : Int) (a0_3 : Int) (a0_4 : Int) (a1_0 : Int) (a1_1 : Int) (a1_2 : Int) (a1_3 : Int) (a1_4 : Int) (r : Bool) (w : World) (h : cohousingref05_continues.f k a0_0 a0_1 a0_2 a0_3 a0_4 a1_0 a1_1 a1_2 a1_3 a1_4 = some r) :
  Calls Try.prog 48 #[.agg #[.int .i64 a0_0, .int .i64 a0_1, .int .i64 a0_2, .int .i64 a0_3, .int .i64 a0_4], .agg #[.int .i64 a1_0, .int .i64 a1_1, .int .i64 a1_2, .int .i64 a1_3, .int .i64 a1_4]] w fun e w' => e = .returned (.bool r) ∧ Below w.heap.size w w' := by
 have hu51 := Try.underlying51
 have hu24 := Try.underlying24
 have HB := mk_ (Below.refl w.heap.size w)
 have H : (if (a0_3 == a1_3 && (a0_4 == a1_4)) = true then ((cohousingref05_Line.f k a0_0 a0_1 a0_2 a0_3 a0_4 a1_0).bind fun bt323 => (some (bt323.1 == a1_1 && (bt323.2 == a1_2)))) else (some false)) = some r := h
 clear h
 by_cases c3 : (a0_3 == a1_3 && (a0_4 == a1_4)) = true
 rotate_left
 ·rw [if_neg c3] at H
  have c3b0 : (a0_3 == a1_3 && (a0_4 == a1_4)) = false := by simpa using c3
  (try (have c3b1 : decide (a0_3 = a1_3 && (a0_4 == a1_4)) = false := by simpa using c3))
  (try (have c3b2 : (a0_3 == a1_3 && (a0_4 == a1_4)) = false := by simpa using c3))
  (try (have c3b3 : ¬ (a0_3 = a1_3 && (a0_4 == a1_4)) := by simpa using c3))
  clear c3
  obtain rfl := Option.some.inj H
  go_enter Try.func48, Try.ntmps48
  try go_wp2_with (first | ((with_reducible refine gate_dst (N := 2) rfl ?_); refine box_event ?hg (N := 2) ?hd (cs := #[.int .i64 a0_0, .int .i64 a0_1, .int .i64 a0_2, .int .i64 a0_3, .int .i64 a0_4]) (t := 51) ?hr ?_; (case hd => rfl); (case hg => rfl); (case hr => first | (go_simp; done) | (go_simp; rfl)); intro gb321 hg w9 hbox hb; have n0_ := mk_ (below_step (bb_ HB) hb); have n1_ := mk_ (hbox); have n2_ := mk_ (bz_ hg (bb_ HB)); have n3_ := mk_ (bz_ hg (bb_ HB)); clear HB; revert n0_ n1_ n2_ n3_; intro HB BK321 GW321 GE321; clear hb hbox hg) | ((with_reducible refine gate_dst (N := 3) rfl ?_); refine box_event ?hg (N := 3) ?hd (cs := #[.int .i64 a1_0, .int .i64 a1_1, .int .i64 a1_2, .int .i64 a1_3, .int .i64 a1_4]) (t := 51) ?hr ?_; (case hd => rfl); (case hg => rfl); (case hr => first | (go_simp; done) | (go_simp; rfl)); intro gb322 hg w10 hbox hb; have n0_ := mk_ (blk_below (kk_ BK321) hb); have n1_ := mk_ (below_step (bs_ HB GE321.out) hb); have n2_ := mk_ (hbox); have n3_ := mk_ (bz_ hg (bs_ HB GE321.out)); have n4_ := mk_ (bz_ hg (bs_ HB GE321.out)); have n5_ := mk_ (bl_ hg (kk_ BK321)); have n6_ := mk_ (bg_ hg (kk_ BK321)); clear BK321 HB; revert n0_ n1_ n2_ n3_ n4_ n5_ n6_; intro BK321 HB BK322 GW322 GE322 NB321_322 NB322_321; clear hb hbox hg))
  have n0_ := mk_ (blk_drew BK321.out)
  have n1_ := mk_ (blk_drew BK322.out)
  have n2_ := mk_ (below_drew1 HB.out)
  clear BK321
  clear BK322
  clear HB
  have BK321 := n0_
  have BK322 := n1_
  have HB := n2_
  clear n0_ n1_ n2_
  refine start_ (n := 15) (S := fun w' => w'.cell? ⟨gb321, 0, none⟩ = some (.int .i64 a0_0) ∧ w'.cell? ⟨gb321, 1, none⟩ = some (.int .i64 a0_1) ∧ w'.cell? ⟨gb321, 2, none⟩ = some (.int .i64 a0_2) ∧ w'.cell? ⟨gb321, 3, none⟩ = some (.int .i64 a0_3) ∧ w'.cell? ⟨gb321, 4, none⟩ = some (.int .i64 a0_4) ∧ w'.cell? ⟨gb322, 0, none⟩ = some (.int .i64 a1_0) ∧ w'.cell? ⟨gb322, 1, none⟩ = some (.int .i64 a1_1) ∧ w'.cell? ⟨gb322, 2, none⟩ = some (.int .i64 a1_2) ∧ w'.cell? ⟨gb322, 3, none⟩ = some (.int .i64 a1_3) ∧ w'.cell? ⟨gb322, 4, none⟩ = some (.int .i64 a1_4)) (ds := []) #[n_, n_, n_, n_, n_, n_, n_, n_, n_, n_, n_, n_, n_, n_, n_] (by kernel_rfl) rfl rfl ⟨(blk_cell BK321.out 0).trans rfl, (blk_cell BK321.out 1).trans rfl, (blk_cell BK321.out 2).trans rfl, (blk_cell BK321.out 3).trans rfl, (blk_cell BK321.out 4).trans rfl, (blk_cell BK322.out 0).trans rfl, (blk_cell BK322.out 1).trans rfl, (blk_cell BK322.out 2).trans rfl, (blk_cell BK322.out 3).trans rfl, (blk_cell BK322.out 4).trans rfl⟩ (fun hHeld => ?_); refine with_tabW cohousingref05_continues.tab1 cohousingref05_continues.bits1 (fun HT_ HW_ => ?_)
  generalize w10.drew = w11 at BK321 BK322 HB hHeld ⊢
  refine pu_ 0 5 (w_ 15 1) rfl HT_ ?_
  refine pu_ 2 7 (w_ 15 5) rfl HT_ ?_
  refine ta_ 1 6 (w_ 15 7) rfl HT_ HW_ hHeld (by rintro w' ⟨s0, s1, s2, s3, s4, s5, s6, s7, s8, s9⟩; go_simp; with_reducible rfl) ?_
  refine ta_ 3 8 (w_ 15 15) rfl HT_ HW_ hHeld (by rintro w' ⟨s0, s1, s2, s3, s4, s5, s6, s7, s8, s9⟩; go_simp; with_reducible rfl) ?_
  refine pu_ 4 9 (w_ 15 31) rfl HT_ ?_
  refine pu_ 5 10 (w_ 15 63) rfl HT_ ?_
  refine pn_ 6 11 (w_ 15 127) rfl HT_ ?_
  refine pn_ 7 12 (w_ 15 255) rfl HT_ ?_
  refine pn_ 8 13 (w_ 15 511) rfl HT_ ?_
  refine pn_ 9 14 (w_ 15 1023) rfl HT_ ?_
  refine pn_ 10 15 (w_ 15 2047) rfl HT_ ?_
  refine pn_ 11 16 (w_ 15 4095) rfl HT_ ?_
  refine pn_ 12 17 (w_ 15 8191) rfl HT_ ?_
  refine pu_ 13 18 (w_ 15 16383) rfl HT_ ?_
  refine pu_ 14 4 (w_ 15 32767) rfl HT_ ?_
  refine done_ (done_of HT_.out (by kernel_rfl)) ?_
  try go_wp2
  go_ret
  exact ⟨ew_, bs2_ HB GE321 GE322⟩
 rw [if_pos c3] at H
 have c3b0 : (a0_3 == a1_3 && (a0_4 == a1_4)) = true := c3
 (try (have c3b1 : decide (a0_3 = a1_3 && (a0_4 == a1_4)) = true := by simpa using c3))
 (try (have c3b2 : (a0_3 == a1_3 && (a0_4 == a1_4)) = true := by simpa using c3))
 clear c3
 replace H := Option.bind_eq_some_iff.mp H
 obtain ⟨⟨t323, t324⟩, A40, H⟩ := H
 replace H : (some (t323 == a1_1 && (t324 == a1_2))) = some r := H
 have A4 := mk_ A40
 clear A40
 obtain rfl := Option.some.inj H
 go_enter Try.func48, Try.ntmps48
 try go_wp2_with (first | ((with_reducible refine gate_dst (N := 2) rfl ?_); refine box_event ?hg (N := 2) ?hd (cs := #[.int .i64 a0_0, .int .i64 a0_1, .int .i64 a0_2, .int .i64 a0_3, .int .i64 a0_4]) (t := 51) ?hr ?_; (case hd => rfl); (case hg => rfl); (case hr => first | (go_simp; done) | (go_simp; rfl)); intro gb321 hg w5 hbox hb; have n0_ := mk_ (below_step (bb_ HB) hb); have n1_ := mk_ (hbox); have n2_ := mk_ (bz_ hg (bb_ HB)); have n3_ := mk_ (bz_ hg (bb_ HB)); clear HB; revert n0_ n1_ n2_ n3_; intro HB BK321 GW321 GE321; clear hb hbox hg) | ((with_reducible refine gate_dst (N := 3) rfl ?_); refine box_event ?hg (N := 3) ?hd (cs := #[.int .i64 a1_0, .int .i64 a1_1, .int .i64 a1_2, .int .i64 a1_3, .int .i64 a1_4]) (t := 51) ?hr ?_; (case hd => rfl); (case hg => rfl); (case hr => first | (go_simp; done) | (go_simp; rfl)); intro gb322 hg w6 hbox hb; have n0_ := mk_ (blk_below (kk_ BK321) hb); have n1_ := mk_ (below_step (bs_ HB GE321.out) hb); have n2_ := mk_ (hbox); have n3_ := mk_ (bz_ hg (bs_ HB GE321.out)); have n4_ := mk_ (bz_ hg (bs_ HB GE321.out)); have n5_ := mk_ (bl_ hg (kk_ BK321)); have n6_ := mk_ (bg_ hg (kk_ BK321)); clear BK321 HB; revert n0_ n1_ n2_ n3_ n4_ n5_ n6_; intro BK321 HB BK322 GW322 GE322 NB321_322 NB322_321; clear hb hbox hg))
 have n0_ := mk_ (blk_drew BK321.out)
 have n1_ := mk_ (blk_drew BK322.out)
 have n2_ := mk_ (below_drew1 HB.out)
 clear BK321
 clear BK322
 clear HB
 have BK321 := n0_
 have BK322 := n1_
 have HB := n2_
 clear n0_ n1_ n2_
 refine start_ (n := 15) (S := fun w' => w'.cell? ⟨gb321, 0, none⟩ = some (.int .i64 a0_0) ∧ w'.cell? ⟨gb321, 1, none⟩ = some (.int .i64 a0_1) ∧ w'.cell? ⟨gb321, 2, none⟩ = some (.int .i64 a0_2) ∧ w'.cell? ⟨gb321, 3, none⟩ = some (.int .i64 a0_3) ∧ w'.cell? ⟨gb321, 4, none⟩ = some (.int .i64 a0_4) ∧ w'.cell? ⟨gb322, 0, none⟩ = some (.int .i64 a1_0) ∧ w'.cell? ⟨gb322, 1, none⟩ = some (.int .i64 a1_1) ∧ w'.cell? ⟨gb322, 2, none⟩ = some (.int .i64 a1_2) ∧ w'.cell? ⟨gb322, 3, none⟩ = some (.int .i64 a1_3) ∧ w'.cell? ⟨gb322, 4, none⟩ = some (.int .i64 a1_4)) (ds := []) #[n_, n_, n_, n_, n_, n_, n_, n_, n_, n_, n_, n_, n_, n_, n_] (by kernel_rfl) rfl rfl ⟨(blk_cell BK321.out 0).trans rfl, (blk_cell BK321.out 1).trans rfl, (blk_cell BK321.out 2).trans rfl, (blk_cell BK321.out 3).trans rfl, (blk_cell BK321.out 4).trans rfl, (blk_cell BK322.out 0).trans rfl, (blk_cell BK322.out 1).trans rfl, (blk_cell BK322.out 2).trans rfl, (blk_cell BK322.out 3).trans rfl, (blk_cell BK322.out 4).trans rfl⟩ (fun hHeld => ?_); refine with_tabW cohousingref05_continues.tab1 cohousingref05_continues.bits1 (fun HT_ HW_ => ?_)
 generalize w6.drew = w7 at BK321 BK322 HB hHeld ⊢
 refine pu_ 0 5 (w_ 15 1) rfl HT_ ?_
 refine pu_ 2 7 (w_ 15 5) rfl HT_ ?_
 refine ta_ 1 6 (w_ 15 7) rfl HT_ HW_ hHeld (by rintro w' ⟨s0, s1, s2, s3, s4, s5, s6, s7, s8, s9⟩; go_simp; with_reducible rfl) ?_
 refine ta_ 3 8 (w_ 15 15) rfl HT_ HW_ hHeld (by rintro w' ⟨s0, s1, s2, s3, s4, s5, s6, s7, s8, s9⟩; go_simp; with_reducible rfl) ?_
 refine pu_ 4 9 (w_ 15 31) rfl HT_ ?_
 refine pu_ 5 10 (w_ 15 63) rfl HT_ ?_
 refine pu_ 7 12 (w_ 15 191) rfl HT_ ?_
 refine pu_ 10 15 (w_ 15 1215) rfl HT_ ?_
 refine ta_ 6 11 (w_ 15 1279) rfl HT_ HW_ hHeld (by rintro w' ⟨s0, s1, s2, s3, s4, s5, s6, s7, s8, s9⟩; go_simp; with_reducible rfl) ?_
 refine ta_ 8 13 (w_ 15 1535) rfl HT_ HW_ hHeld (by rintro w' ⟨s0, s1, s2, s3, s4, s5, s6, s7, s8, s9⟩; go_simp; with_reducible rfl) ?_
 refine ta_ 11 16 (w_ 15 3583) rfl HT_ HW_ hHeld (by rintro w' ⟨s0, s1, s2, s3, s4, s5, s6, s7, s8, s9⟩; go_simp; with_reducible rfl) ?_
 refine one_ (i := 9) (N := some 14) (w_ 15 4095) rfl rfl (one_of HT_.out (by kernel_rfl)) (by decide) (fun K hK => ?_)
 refine goes_ Try.func44 (by kernel_rfl) rfl #[.agg #[.int .i64 a0_0, .int .i64 a0_1, .int .i64 a0_2, .int .i64 a0_3, .int .i64 a0_4], .int .i64 a1_0] (by rfl) rfl rfl (by (try simp only [List.map_toArray, List.map_cons, List.map_nil]); first | done | rfl | (simp only [List.length_drop, List.length_take]; rfl)) ?_
 with_reducible refine (cohousingref05_Line.calls k a0_0 a0_1 a0_2 a0_3 a0_4 a1_0 t323 t324 _ A4.out).mono ?_
 rintro e w8 ⟨rfl, hb⟩
 refine ⟨_, rfl, ?_⟩
 have n0_ := mk_ (blk_below (kk_ BK321) hb)
 have n1_ := mk_ (blk_below (kk_ BK322) hb)
 have n2_ := mk_ (below_step (bs2_ HB GE321 GE322) hb)
 clear BK321
 clear BK322
 clear HB
 have BK321 := n0_
 have BK322 := n1_
 have HB := n2_
 clear n0_ n1_ n2_
 (try clear hb)
 (try clear hb2)
 (try clear hk)
 (try clear hi)
 refine hK.out _ _ ⟨(blk_cell BK321.out 0).trans rfl, (blk_cell BK321.out 1).trans rfl, (blk_cell BK321.out 2).trans rfl, (blk_cell BK321.out 3).trans rfl, (blk_cell BK321.out 4).trans rfl, (blk_cell BK322.out 0).trans rfl, (blk_cell BK322.out 1).trans rfl, (blk_cell BK322.out 2).trans rfl, (blk_cell BK322.out 3).trans rfl, (blk_cell BK322.out 4).trans rfl⟩ (fun hHeld => ?_)
 clear hK K
 refine norm_ (a' := ?_) ?_ ?_
 rotate_left
 ·show Act.put _ (some 14) _ = _
  simp only [Act.put, sI_, s0_, sS_, i64_w, i32_w]
  rfl
 refine pu_ 12 17 (w_ 15 8191) rfl HT_ ?_
 refine pu_ 13 18 (w_ 15 16383) rfl HT_ ?_
 refine pu_ 14 4 (w_ 15 32767) rfl HT_ ?_
 refine done_ (done_of HT_.out (by kernel_rfl)) ?_
 try go_wp2
 go_ret
 exact ⟨ew_, bs2_ HB GE321 GE322⟩
end
section
def cohousingref05_Compare.f (a0_0 : Int) (a0_1 : Int) (a1_0 : Int) (a1_1 : Int) : Option (Int) := if (wrap64 (a0_0 * a1_1)) < (wrap64 (a1_0 * a0_1)) then (some (-1)) else (if (wrap64 (a0_0 * a1_1)) > (wrap64 (a1_0 * a0_1)) then (some 1) else (some 0))
theorem cohousingref05_Compare.calls (a0_0 : Int) (a0_1 : Int) (a1_0 : Int) (a1_1 : Int) (r : Int) (w : World) (h : cohousingref05_Compare.f a0_0 a0_1 a1_0 a1_1 = some r) :
  Calls Try.prog 29 #[.agg #[.int .i64 a0_0, .int .i64 a0_1], .agg #[.int .i64 a1_0, .int .i64 a1_1]] w fun e w' => e = .returned (.int .i64 r) ∧ Below w.heap.size w w' := by
 have hu24 := Try.underlying24
 have HB := mk_ (Below.refl w.heap.size w)
 have H : (if (wrap64 (a0_0 * a1_1)) < (wrap64 (a1_0 * a0_1)) then (some (-1)) else (if (wrap64 (a0_0 * a1_1)) > (wrap64 (a1_0 * a0_1)) then (some 1) else (some 0))) = some r := h
 clear h
 by_cases c3 : (wrap64 (a0_0 * a1_1)) < (wrap64 (a1_0 * a0_1))
 ·rw [if_pos c3] at H
  have c3b0 : decide ((wrap64 (a0_0 * a1_1)) < (wrap64 (a1_0 * a0_1))) = true := decide_eq_true c3
  clear c3
  obtain rfl := Option.some.inj H
  go_enter Try.func29, Try.ntmps29
  go_wp2_with (first | ((with_reducible refine gate_dst (N := 2) rfl ?_); refine box_event ?hg (N := 2) ?hd (cs := #[.int .i64 a0_0, .int .i64 a0_1]) (t := 24) ?hr ?_; (case hd => rfl); (case hg => rfl); (case hr => first | (go_simp; done) | (go_simp; rfl)); intro gb400 hg w4 hbox hb; have n0_ := mk_ (below_step (bb_ HB) hb); have n1_ := mk_ (hbox); have n2_ := mk_ (bz_ hg (bb_ HB)); have n3_ := mk_ (bz_ hg (bb_ HB)); clear HB; revert n0_ n1_ n2_ n3_; intro HB BK400 GW400 GE400; clear hb hbox hg) | ((with_reducible refine gate_dst (N := 3) rfl ?_); refine box_event ?hg (N := 3) ?hd (cs := #[.int .i64 a1_0, .int .i64 a1_1]) (t := 24) ?hr ?_; (case hd => rfl); (case hg => rfl); (case hr => first | (go_simp; done) | (go_simp; rfl)); intro gb401 hg w5 hbox hb; have n0_ := mk_ (blk_below (kk_ BK400) hb); have n1_ := mk_ (below_step (bs_ HB GE400.out) hb); have n2_ := mk_ (hbox); have n3_ := mk_ (bz_ hg (bs_ HB GE400.out)); have n4_ := mk_ (bz_ hg (bs_ HB GE400.out)); have n5_ := mk_ (bl_ hg (kk_ BK400)); have n6_ := mk_ (bg_ hg (kk_ BK400)); clear BK400 HB; revert n0_ n1_ n2_ n3_ n4_ n5_ n6_; intro BK400 HB BK401 GW401 GE401 NB400_401 NB401_400; clear hb hbox hg; have hnb6 := NB400_401.out; have hnc6 := NB401_400.out; have hcz7_0 := bc0_ BK400.out; have hcz7_1 := bc1_ BK400.out; have hfz7_0 := blk_frozen BK400.out 0; have hfz7_1 := blk_frozen BK400.out 1; have hcz8_0 := bc0_ BK401.out; have hcz8_1 := bc1_ BK401.out; have hfz8_0 := blk_frozen BK401.out 0; have hfz8_1 := blk_frozen BK401.out 1))
  go_ret
  exact ⟨ew_, bs2_ HB GE400 GE401⟩
 rw [if_neg c3] at H
 have c3b0 : decide ((wrap64 (a0_0 * a1_1)) < (wrap64 (a1_0 * a0_1))) = false := decide_eq_false c3
 clear c3
 by_cases c9 : (wrap64 (a0_0 * a1_1)) > (wrap64 (a1_0 * a0_1))
 rotate_left
 ·rw [if_neg c9] at H
  have c9b0 : decide ((wrap64 (a1_0 * a0_1)) < (wrap64 (a0_0 * a1_1))) = false := decide_eq_false c9
  clear c9
  obtain rfl := Option.some.inj H
  go_enter Try.func29, Try.ntmps29
  go_wp2_with (first | ((with_reducible refine gate_dst (N := 2) rfl ?_); refine box_event ?hg (N := 2) ?hd (cs := #[.int .i64 a0_0, .int .i64 a0_1]) (t := 24) ?hr ?_; (case hd => rfl); (case hg => rfl); (case hr => first | (go_simp; done) | (go_simp; rfl)); intro gb400 hg w15 hbox hb; have n0_ := mk_ (below_step (bb_ HB) hb); have n1_ := mk_ (hbox); have n2_ := mk_ (bz_ hg (bb_ HB)); have n3_ := mk_ (bz_ hg (bb_ HB)); clear HB; revert n0_ n1_ n2_ n3_; intro HB BK400 GW400 GE400; clear hb hbox hg) | ((with_reducible refine gate_dst (N := 3) rfl ?_); refine box_event ?hg (N := 3) ?hd (cs := #[.int .i64 a1_0, .int .i64 a1_1]) (t := 24) ?hr ?_; (case hd => rfl); (case hg => rfl); (case hr => first | (go_simp; done) | (go_simp; rfl)); intro gb401 hg w16 hbox hb; have n0_ := mk_ (blk_below (kk_ BK400) hb); have n1_ := mk_ (below_step (bs_ HB GE400.out) hb); have n2_ := mk_ (hbox); have n3_ := mk_ (bz_ hg (bs_ HB GE400.out)); have n4_ := mk_ (bz_ hg (bs_ HB GE400.out)); have n5_ := mk_ (bl_ hg (kk_ BK400)); have n6_ := mk_ (bg_ hg (kk_ BK400)); clear BK400 HB; revert n0_ n1_ n2_ n3_ n4_ n5_ n6_; intro BK400 HB BK401 GW401 GE401 NB400_401 NB401_400; clear hb hbox hg; have hnb17 := NB400_401.out; have hnc17 := NB401_400.out; have hcz18_0 := bc0_ BK400.out; have hcz18_1 := bc1_ BK400.out; have hfz18_0 := blk_frozen BK400.out 0; have hfz18_1 := blk_frozen BK400.out 1; have hcz19_0 := bc0_ BK401.out; have hcz19_1 := bc1_ BK401.out; have hfz19_0 := blk_frozen BK401.out 0; have hfz19_1 := blk_frozen BK401.out 1))
  go_ret
  exact ⟨ew_, bs2_ HB GE400 GE401⟩
 rw [if_pos c9] at H
 have c9b0 : decide ((wrap64 (a1_0 * a0_1)) < (wrap64 (a0_0 * a1_1))) = true := decide_eq_true c9
 clear c9
 obtain rfl := Option.some.inj H
 go_enter Try.func29, Try.ntmps29
 go_wp2_with (first | ((with_reducible refine gate_dst (N := 2) rfl ?_); refine box_event ?hg (N := 2) ?hd (cs := #[.int .i64 a0_0, .int .i64 a0_1]) (t := 24) ?hr ?_; (case hd => rfl); (case hg => rfl); (case hr => first | (go_simp; done) | (go_simp; rfl)); intro gb400 hg w10 hbox hb; have n0_ := mk_ (below_step (bb_ HB) hb); have n1_ := mk_ (hbox); have n2_ := mk_ (bz_ hg (bb_ HB)); have n3_ := mk_ (bz_ hg (bb_ HB)); clear HB; revert n0_ n1_ n2_ n3_; intro HB BK400 GW400 GE400; clear hb hbox hg) | ((with_reducible refine gate_dst (N := 3) rfl ?_); refine box_event ?hg (N := 3) ?hd (cs := #[.int .i64 a1_0, .int .i64 a1_1]) (t := 24) ?hr ?_; (case hd => rfl); (case hg => rfl); (case hr => first | (go_simp; done) | (go_simp; rfl)); intro gb401 hg w11 hbox hb; have n0_ := mk_ (blk_below (kk_ BK400) hb); have n1_ := mk_ (below_step (bs_ HB GE400.out) hb); have n2_ := mk_ (hbox); have n3_ := mk_ (bz_ hg (bs_ HB GE400.out)); have n4_ := mk_ (bz_ hg (bs_ HB GE400.out)); have n5_ := mk_ (bl_ hg (kk_ BK400)); have n6_ := mk_ (bg_ hg (kk_ BK400)); clear BK400 HB; revert n0_ n1_ n2_ n3_ n4_ n5_ n6_; intro BK400 HB BK401 GW401 GE401 NB400_401 NB401_400; clear hb hbox hg; have hnb12 := NB400_401.out; have hnc12 := NB401_400.out; have hcz13_0 := bc0_ BK400.out; have hcz13_1 := bc1_ BK400.out; have hfz13_0 := blk_frozen BK400.out 0; have hfz13_1 := blk_frozen BK400.out 1; have hcz14_0 := bc0_ BK401.out; have hcz14_1 := bc1_ BK401.out; have hfz14_0 := blk_frozen BK401.out 0; have hfz14_1 := blk_frozen BK401.out 1))
 go_ret
 exact ⟨ew_, bs2_ HB GE400 GE401⟩
end
end Go.Proofs.Ytmhimmodigeeiaa.P
end
