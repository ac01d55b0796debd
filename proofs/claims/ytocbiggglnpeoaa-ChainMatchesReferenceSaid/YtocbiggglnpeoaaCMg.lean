/- Part 7 of the base that the seat's proofs share: words, walks and plain laws. -/
import Derived.Test.YtocbiggglnpeoaaCMf
set_option linter.unusedVariables false
set_option linter.unusedSimpArgs false
section
namespace Go.Proofs.Ytocbiggglnpeoaa.M
open Go.RowKit Go.Proofs.YtocbiggglnpeoaaW.PrintWords Go.Proofs.YtocbiggglnpeoaaW.PrintLast Go.Proofs.YtocbiggglnpeoaaW.PrintMore
attribute [local go_sem] max2_int min2_int max_two min_two max_three min_three max_four min_four
set_option linter.unusedVariables false
set_option linter.unusedSimpArgs false
mutual
def cohousingref26_Agrees.l0 : Nat → List (S55) → Int → Int → Bool → Int → Option (Bool)
 | 0, _, _, _, _, _ => none
 | k + 1, x0, x1, x2, x7, x8 => if x8 < (x0.length : Int) then (if 0 ≤ x8 then (if ((rd_T55 x0 x8).f1) = x1 then (cohousingref26_Agrees.j1 k x0 x1 x2 x7 x8 (decide (((rd_T55 x0 x8).f2) > x2))) else (cohousingref26_Agrees.j1 k x0 x1 x2 x7 x8 true)) else (none)) else (some x7)
def cohousingref26_Agrees.j1 : Nat → List (S55) → Int → Int → Bool → Int → Bool → Option (Bool)
 | 0, _, _, _, _, _, _ => none
 | k + 1, x0, x1, x2, x7, x8, x30 => if x30 = true then (cohousingref26_Agrees.l0 k x0 x1 x2 x7 (wrap64 (x8 + 1))) else (if 0 ≤ x8 then (if x8 < (x0.length : Int) then (if ((rd_T55 x0 x8).f0) = 3 then (some false) else (cohousingref26_Agrees.l0 k x0 x1 x2 (((rd_T55 x0 x8).f0) == 1) (wrap64 (x8 + 1)))) else (none)) else (none))
end
def cohousingref26_Agrees.f (k : Nat) (l0 : List (S55)) (a1 : Int) (a2 : Int) : Option (Bool) := cohousingref26_Agrees.l0 k l0 a1 a2 false 0
set_option maxHeartbeats 8000000 in
set_option maxRecDepth 100000 in
theorem cohousingref26_Agrees.calls (k : Nat) (A0 : Option Addr) (c0 : Nat) (l0 : List (S55)) (a1 : Int) (a2 : Int) (r : Bool) (w : World) (hr0 : Kd.C k55 w A0 l0.length l0) (hc0 : l0.length ≤ c0) (h : cohousingref26_Agrees.f k l0 a1 a2 = some r) :
  Calls Try.prog 23 #[.slice A0 l0.length c0, .int .i64 a1, .int .i64 a2] w fun e w' => e = .returned (.bool r) ∧ Drawn0 w w' := by
 have HR0 := mk_ hr0
 have HC0 := mk_ hc0
 clear hr0 hc0
 have H : (cohousingref26_Agrees.l0 k l0 a1 a2 false 0) = some r := h
 clear h
 have H' := mk_ H
 clear H
 go_enter Try.func23, Try.ntmps23
 go_wp2
 go_loopg [7, 8] k (fun kq v7 v8 w' => ∃ (x7_1 : Bool) (x8_1 : Int), v7 = .bool x7_1 ∧ v8 = .int .i64 x8_1 ∧ Aside0 (cohousingref26_Agrees.l0 kq l0 a1 a2 x7_1 x8_1 = some r) ∧ Aside0 (kq ≤ k) ∧ Drawn0 w w')
 case atStart => exact ⟨(false), (0), sd_, sd_, H', ⟨Nat.le_refl _⟩, by repeat (first | exact Drawn0.refl _ | apply Drawn0.step)⟩
 case round =>
  clear H'
  try clear c2; try clear p2
  obtain ⟨x7_1, x8_1, rfl, rfl, HA, HK1, ⟨m1, rfl⟩⟩ := hrel
  cases gk with
  | zero => exact absurd HA.out (by simp [cohousingref26_Agrees.l0])
  | succ k1 =>
   have H := HA.out
   clear HA
   simp only [cohousingref26_Agrees.l0] at H
   by_cases c4 : x8_1 < (l0.length : Int)
   rotate_left
   ·rw [if_neg c4] at H
    have c4b0 : decide (x8_1 < (l0.length : Int)) = false := decide_eq_false c4
    clear c4
    obtain rfl := Option.some.inj H
    go_wp2
    go_ret
    exact ⟨by first | rfl | (simp; done) | (simp [*]; done), by repeat (first | exact Drawn0.refl _ | apply Drawn0.step)⟩
   rw [if_pos c4] at H
   have c4b0 : decide (x8_1 < (l0.length : Int)) = true := decide_eq_true c4
   clear c4
   have HC5 := mk_ H
   clear H
   go_upto_region 5 with (fail)
   go_cut [30] (fun v30 wc => ∃ (kq : Nat) (x30_4 : Bool), v30 = .bool x30_4 ∧ Aside0 (cohousingref26_Agrees.j1 kq l0 a1 a2 x7_1 x8_1 x30_4 = some r) ∧ Aside0 (kq ≤ k1) ∧ Drawn0 w wc)
   case first =>
    have H := HC5.out
    clear HC5
    by_cases c6 : 0 ≤ x8_1
    rotate_left
    ·rw [if_neg c6] at H
     exact absurd H (by simp)
    rw [if_pos c6] at H
    have c6b0 : decide (0 ≤ x8_1) = true := decide_eq_true c6
    clear c6
    (first | rw [c6b0] | (simp only [i64_w, i32_w]; rw [c6b0]) | skip)
    by_cases c7 : ((rd_T55 l0 x8_1).f1) = a1
    rotate_left
    ·rw [if_neg c7] at H
     have c7b0 : (((rd_T55 l0 x8_1).f1) == a1) = false := beq_eq_false_iff_ne.mpr c7
     have c7b1 : (((rd_T55 l0 x8_1).f1) != a1) = true := bne_iff_ne.mpr c7
     have H' := mk_ H
     clear H
     have p199 : 0 ≤ (x8_1 : Int) := od_
     have q199 : x8_1 < (l0.length : Int) := od_
     obtain ⟨ad199, e199, hx199_0, hx199_1, hx199_2⟩ := at_T55 HR0.out x8_1 p199 q199
     cases e199
     replace p199 := eq_true p199
     replace q199 := eq_true q199
     go_wp2
     go_meet
     case rel => exact ⟨_, (true), sd_, H', ⟨by have := HK1.out; first | omega | exact Nat.le_refl _⟩, by repeat (first | exact Drawn0.refl _ | apply Drawn0.step)⟩
    rw [if_pos c7] at H
    have c7b0 : (((rd_T55 l0 x8_1).f1) == a1) = true := beq_iff_eq.mpr c7
    have c7b1 : (((rd_T55 l0 x8_1).f1) != a1) = false := bne_eq_false_iff_eq.mpr c7
    clear c7
    have H' := mk_ H
    clear H
    have p199 : 0 ≤ (x8_1 : Int) := od_
    have q199 : x8_1 < (l0.length : Int) := od_
    obtain ⟨ad199, e199, hx199_0, hx199_1, hx199_2⟩ := at_T55 HR0.out x8_1 p199 q199
    cases e199
    replace p199 := eq_true p199
    replace q199 := eq_true q199
    have p200 : 0 ≤ (x8_1 : Int) := od_
    have q200 : x8_1 < (l0.length : Int) := od_
    obtain ⟨ad200, e200, hx200_0, hx200_1, hx200_2⟩ := at_T55 HR0.out x8_1 p200 q200
    obtain rfl : ad199 = ad200 := (by injection e200)
    replace p200 := eq_true p200
    replace q200 := eq_true q200
    go_wp2
    go_meet
    case rel => exact ⟨_, (decide (((rd_T55 l0 x8_1).f2) > a2)), sd_, H', ⟨by have := HK1.out; first | omega | exact Nat.le_refl _⟩, by repeat (first | exact Drawn0.refl _ | apply Drawn0.step)⟩
   case rest =>
    clear HC5
    try clear p1; try clear q1; try clear hx1; try clear c2; try clear p2; try clear q2; try clear hx2; try clear c4; try clear c4b0; try clear c6; try clear c6b0; try clear c7; try clear c7b0; try clear c7b1; try clear hx199_0; try clear hx199_1; try clear hx199_2; try clear hx200_0; try clear hx200_1; try clear hx200_2; try clear p199; try clear p2; try clear p200; try clear q199; try clear q200
    obtain ⟨kq, x30_4, rfl, HA, HJ4, ⟨mc4, rfl⟩⟩ := hcut
    cases kq with
    | zero => exact absurd HA.out (by simp [cohousingref26_Agrees.j1])
    | succ kj4 =>
     have H := HA.out
     clear HA
     simp only [cohousingref26_Agrees.j1] at H
     by_cases c8 : x30_4 = true
     ·subst c8
      have H1 : (cohousingref26_Agrees.l0 kj4 l0 a1 a2 x7_1 (wrap64 (x8_1 + 1))) = some r := by rw [if_pos rfl] at H; exact H
      clear H
      have H := H1
      clear H1
      have H' := mk_ H
      clear H
      go_wp2
      go_roundg kj4
      case measure => have := HK1.out; have := HJ4.out; omega
      case rel => exact ⟨(x7_1), (wrap64 (x8_1 + 1)), sd_, sd_, H', ⟨by have := HK1.out; have := HJ4.out; omega⟩, by repeat (first | exact Drawn0.refl _ | apply Drawn0.step)⟩
     replace c8 := Bool.eq_false_iff.mpr c8
     subst c8
     have H1 : (if 0 ≤ x8_1 then (if x8_1 < (l0.length : Int) then (if ((rd_T55 l0 x8_1).f0) = 3 then (some false) else (cohousingref26_Agrees.l0 kj4 l0 a1 a2 (((rd_T55 l0 x8_1).f0) == 1) (wrap64 (x8_1 + 1)))) else (none)) else (none)) = some r := by rw [if_neg (show ¬ (false = true) by decide)] at H; exact H
     clear H
     have H := H1
     clear H1
     by_cases c9 : 0 ≤ x8_1
     rotate_left
     ·rw [if_neg c9] at H
      exact absurd H (by simp)
     rw [if_pos c9] at H
     have c9b0 : decide (0 ≤ x8_1) = true := decide_eq_true c9
     clear c9
     by_cases c10 : x8_1 < (l0.length : Int)
     rotate_left
     ·rw [if_neg c10] at H
      exact absurd H (by simp)
     rw [if_pos c10] at H
     have c10b0 : decide (x8_1 < (l0.length : Int)) = true := decide_eq_true c10
     clear c10
     by_cases c11 : ((rd_T55 l0 x8_1).f0) = 3
     ·rw [if_pos c11] at H
      have c11b0 : (((rd_T55 l0 x8_1).f0) == 3) = true := beq_iff_eq.mpr c11
      have c11b1 : (((rd_T55 l0 x8_1).f0) != 3) = false := bne_eq_false_iff_eq.mpr c11
      clear c11
      obtain rfl := Option.some.inj H
      have p201 : 0 ≤ (x8_1 : Int) := od_
      have q201 : x8_1 < (l0.length : Int) := od_
      obtain ⟨ad201, e201, hx201_0, hx201_1, hx201_2⟩ := at_T55 HR0.out x8_1 p201 q201
      cases e201
      replace p201 := eq_true p201
      replace q201 := eq_true q201
      go_wp2
      go_ret
      exact ⟨by first | rfl | (simp; done) | (simp [*]; done), by repeat (first | exact Drawn0.refl _ | apply Drawn0.step)⟩
     rw [if_neg c11] at H
     have c11b0 : (((rd_T55 l0 x8_1).f0) == 3) = false := beq_eq_false_iff_ne.mpr c11
     have c11b1 : (((rd_T55 l0 x8_1).f0) != 3) = true := bne_iff_ne.mpr c11
     have H' := mk_ H
     clear H
     have p201 : 0 ≤ (x8_1 : Int) := od_
     have q201 : x8_1 < (l0.length : Int) := od_
     obtain ⟨ad201, e201, hx201_0, hx201_1, hx201_2⟩ := at_T55 HR0.out x8_1 p201 q201
     cases e201
     replace p201 := eq_true p201
     replace q201 := eq_true q201
     have p202 : 0 ≤ (x8_1 : Int) := od_
     have q202 : x8_1 < (l0.length : Int) := od_
     obtain ⟨ad202, e202, hx202_0, hx202_1, hx202_2⟩ := at_T55 HR0.out x8_1 p202 q202
     obtain rfl : ad201 = ad202 := (by injection e202)
     replace p202 := eq_true p202
     replace q202 := eq_true q202
     go_wp2
     go_roundg kj4
     case measure => have := HK1.out; have := HJ4.out; omega
     case rel => exact ⟨((((rd_T55 l0 x8_1).f0) == 1)), (wrap64 (x8_1 + 1)), sd_, sd_, H', ⟨by have := HK1.out; have := HJ4.out; omega⟩, by repeat (first | exact Drawn0.refl _ | apply Drawn0.step)⟩
end Go.Proofs.Ytocbiggglnpeoaa.M
end
section
namespace Go.Proofs.Ytocbiggglnpeoaa.M
open Go.RowKit Go.Proofs.YtocbiggglnpeoaaW.PrintWords Go.Proofs.YtocbiggglnpeoaaW.PrintLast Go.Proofs.YtocbiggglnpeoaaW.PrintMore
attribute [local go_sem] max2_int min2_int max_two min_two max_three min_three max_four min_four
set_option linter.unusedVariables false
set_option linter.unusedSimpArgs false
def cohousingref23_In.l0 : Nat → List Int → Int → Int → Option (Int)
 | 0, _, _, _ => none
 | k + 1, x0, x1, x5 => if x5 < (x0.length : Int) then (if 0 ≤ x5 then (if (rd x0 x5) = x1 then (some x5) else (cohousingref23_In.l0 k x0 x1 (wrap64 (x5 + 1)))) else (none)) else (some (-1))
def cohousingref23_In.f (k : Nat) (l0 : List Int) (a1 : Int) : Option (Int) := cohousingref23_In.l0 k l0 a1 0
set_option maxHeartbeats 8000000 in
set_option maxRecDepth 100000 in
theorem cohousingref23_In.calls (k : Nat) (A0 : Option Addr) (c0 : Nat) (l0 : List Int) (a1 : Int) (r : Int) (w : World) (hr0 : Kd.C (Kd.int .i64) w A0 l0.length l0) (hc0 : l0.length ≤ c0) (h : cohousingref23_In.f k l0 a1 = some r) :
  Calls Try.prog 24 #[.slice A0 l0.length c0, .int .i64 a1] w fun e w' => e = .returned (.int .i64 r) ∧ Drawn0 w w' := by
 have HR0 := mk_ hr0
 have HC0 := mk_ hc0
 clear hr0 hc0
 have H : (cohousingref23_In.l0 k l0 a1 0) = some r := h
 clear h
 have H' := mk_ H
 clear H
 go_enter Try.func24, Try.ntmps24
 go_wp2
 go_loopg [5] k (fun kq v5 w' => ∃ (x5_1 : Int), v5 = .int .i64 x5_1 ∧ Aside0 (cohousingref23_In.l0 kq l0 a1 x5_1 = some r) ∧ Aside0 (kq ≤ k) ∧ Drawn0 w w')
 case atStart => exact ⟨(0), sd_, H', ⟨Nat.le_refl _⟩, by repeat (first | exact Drawn0.refl _ | apply Drawn0.step)⟩
 case round =>
  clear H'
  try clear c2; try clear p2
  obtain ⟨x5_1, rfl, HA, HK1, ⟨m1, rfl⟩⟩ := hrel
  cases gk with
  | zero => exact absurd HA.out (by simp [cohousingref23_In.l0])
  | succ k1 =>
   have H := HA.out
   clear HA
   simp only [cohousingref23_In.l0] at H
   by_cases c3 : x5_1 < (l0.length : Int)
   rotate_left
   ·rw [if_neg c3] at H
    have c3b0 : decide (x5_1 < (l0.length : Int)) = false := decide_eq_false c3
    clear c3
    obtain rfl := Option.some.inj H
    go_wp2
    go_ret
    exact ⟨by first | rfl | (simp; done) | (simp [*]; done), by repeat (first | exact Drawn0.refl _ | apply Drawn0.step)⟩
   rw [if_pos c3] at H
   have c3b0 : decide (x5_1 < (l0.length : Int)) = true := decide_eq_true c3
   clear c3
   by_cases c4 : 0 ≤ x5_1
   rotate_left
   ·rw [if_neg c4] at H
    exact absurd H (by simp)
   rw [if_pos c4] at H
   have c4b0 : decide (0 ≤ x5_1) = true := decide_eq_true c4
   clear c4
   by_cases c5 : (rd l0 x5_1) = a1
   ·rw [if_pos c5] at H
    have c5b0 : ((rd l0 x5_1) == a1) = true := beq_iff_eq.mpr c5
    have c5b1 : ((rd l0 x5_1) != a1) = false := bne_eq_false_iff_eq.mpr c5
    clear c5
    obtain rfl := Option.some.inj H
    have p203 : 0 ≤ (x5_1 : Int) := od_
    have q203 : x5_1 < (l0.length : Int) := od_
    obtain ⟨ad203, e203, hx203_0⟩ := Kd.at_int HR0.out x5_1 p203 q203
    cases e203
    replace p203 := eq_true p203
    replace q203 := eq_true q203
    go_wp2
    go_ret
    exact ⟨by first | rfl | (simp; done) | (simp [*]; done), by repeat (first | exact Drawn0.refl _ | apply Drawn0.step)⟩
   rw [if_neg c5] at H
   have c5b0 : ((rd l0 x5_1) == a1) = false := beq_eq_false_iff_ne.mpr c5
   have c5b1 : ((rd l0 x5_1) != a1) = true := bne_iff_ne.mpr c5
   have H' := mk_ H
   clear H
   have p203 : 0 ≤ (x5_1 : Int) := od_
   have q203 : x5_1 < (l0.length : Int) := od_
   obtain ⟨ad203, e203, hx203_0⟩ := Kd.at_int HR0.out x5_1 p203 q203
   cases e203
   replace p203 := eq_true p203
   replace q203 := eq_true q203
   go_wp2
   go_roundg k1
   case measure => have := HK1.out; omega
   case rel => exact ⟨(wrap64 (x5_1 + 1)), sd_, H', ⟨by have := HK1.out; omega⟩, by repeat (first | exact Drawn0.refl _ | apply Drawn0.step)⟩
end Go.Proofs.Ytocbiggglnpeoaa.M
end
section
namespace Go.Proofs.Ytocbiggglnpeoaa.M
open Go.RowKit Go.Proofs.YtocbiggglnpeoaaW.PrintWords Go.Proofs.YtocbiggglnpeoaaW.PrintLast Go.Proofs.YtocbiggglnpeoaaW.PrintMore
attribute [local go_sem] max2_int min2_int max_two min_two max_three min_three max_four min_four
set_option linter.unusedVariables false
set_option linter.unusedSimpArgs false
def cohousingref23_Flats.l0 : Nat → List (S84) → Int → Option (Bool)
 | 0, _, _ => none
 | k + 1, x0, x3 => if x3 < (x0.length : Int) then (if 0 ≤ x3 then (if ((rd_T84 x0 x3).f0) < 1 then (some false) else (if ((rd_T84 x0 x3).f0) > 64 then (some false) else (if x3 > 0 then (if 0 ≤ (wrap64 (x3 - 1)) then (if (wrap64 (x3 - 1)) < (x0.length : Int) then (if ((rd_T84 x0 x3).f0) ≤ ((rd_T84 x0 (wrap64 (x3 - 1))).f0) then (some false) else (if ((rd_T84 x0 x3).f1) < 1 then (some false) else (if ((rd_T84 x0 x3).f1) > 10 then (some false) else (cohousingref23_Flats.l0 k x0 (wrap64 (x3 + 1)))))) else (none)) else (none)) else (if ((rd_T84 x0 x3).f1) < 1 then (some false) else (if ((rd_T84 x0 x3).f1) > 10 then (some false) else (cohousingref23_Flats.l0 k x0 (wrap64 (x3 + 1)))))))) else (none)) else (some true)
def cohousingref23_Flats.f (k : Nat) (l0 : List (S84)) : Option (Bool) := if (l0.length : Int) > 64 then (some false) else (cohousingref23_Flats.l0 k l0 0)
set_option maxHeartbeats 8000000 in
set_option maxRecDepth 100000 in
theorem cohousingref23_Flats.calls (k : Nat) (A0 : Option Addr) (c0 : Nat) (l0 : List (S84)) (r : Bool) (w : World) (hr0 : Kd.C k84 w A0 l0.length l0) (hc0 : l0.length ≤ c0) (h : cohousingref23_Flats.f k l0 = some r) :
  Calls Try.prog 44 #[.slice A0 l0.length c0] w fun e w' => e = .returned (.bool r) ∧ Drawn0 w w' := by
 have HR0 := mk_ hr0
 have HC0 := mk_ hc0
 clear hr0 hc0
 have H : (if (l0.length : Int) > 64 then (some false) else (cohousingref23_Flats.l0 k l0 0)) = some r := h
 clear h
 by_cases c2 : (l0.length : Int) > 64
 ·rw [if_pos c2] at H
  have c2b0 : decide (64 < (l0.length : Int)) = true := decide_eq_true c2
  have c2b1 : decide (64 < l0.length) = true := decide_eq_true (by omega)
  clear c2
  obtain rfl := Option.some.inj H
  go_enter Try.func44, Try.ntmps44
  go_wp2
  repeat (go_quiet (fail); try go_wp2)
  go_ret
  exact ⟨by first | rfl | (simp; done) | (simp [*]; done), by repeat (first | exact Drawn0.refl _ | apply Drawn0.step)⟩
 rw [if_neg c2] at H
 have c2b0 : decide (64 < (l0.length : Int)) = false := decide_eq_false c2
 have c2b1 : decide (64 < l0.length) = false := decide_eq_false (by omega)
 clear c2
 have H' := mk_ H
 clear H
 go_enter Try.func44, Try.ntmps44
 go_wp2
 repeat (go_quiet (fail); try go_wp2)
 go_loopg [3] k (fun kq v3 w' => ∃ (x3_1 : Int), v3 = .int .i64 x3_1 ∧ Aside0 (cohousingref23_Flats.l0 kq l0 x3_1 = some r) ∧ Aside0 (kq ≤ k) ∧ Drawn0 w w')
 case atStart => exact ⟨(0), sd_, H', ⟨Nat.le_refl _⟩, by repeat (first | exact Drawn0.refl _ | apply Drawn0.step)⟩
 case round =>
  clear H'
  try clear c2; try clear c2b0; try clear c2b1; try clear p2
  obtain ⟨x3_1, rfl, HA, HK1, ⟨m1, rfl⟩⟩ := hrel
  cases gk with
  | zero => exact absurd HA.out (by simp [cohousingref23_Flats.l0])
  | succ k1 =>
   have H := HA.out
   clear HA
   simp only [cohousingref23_Flats.l0] at H
   by_cases c3 : x3_1 < (l0.length : Int)
   rotate_left
   ·rw [if_neg c3] at H
    have c3b0 : decide (x3_1 < (l0.length : Int)) = false := decide_eq_false c3
    clear c3
    obtain rfl := Option.some.inj H
    go_wp2
    repeat (go_quiet (fail); try go_wp2)
    go_ret
    exact ⟨by first | rfl | (simp; done) | (simp [*]; done), by repeat (first | exact Drawn0.refl _ | apply Drawn0.step)⟩
   rw [if_pos c3] at H
   have c3b0 : decide (x3_1 < (l0.length : Int)) = true := decide_eq_true c3
   clear c3
   by_cases c4 : 0 ≤ x3_1
   rotate_left
   ·rw [if_neg c4] at H
    exact absurd H (by simp)
   rw [if_pos c4] at H
   have c4b0 : decide (0 ≤ x3_1) = true := decide_eq_true c4
   clear c4
   by_cases c5 : ((rd_T84 l0 x3_1).f0) < 1
   ·rw [if_pos c5] at H
    have c5b0 : decide (((rd_T84 l0 x3_1).f0) < 1) = true := decide_eq_true c5
    clear c5
    obtain rfl := Option.some.inj H
    have p204 : 0 ≤ (x3_1 : Int) := od_
    have q204 : x3_1 < (l0.length : Int) := od_
    obtain ⟨ad204, e204, hx204_0, hx204_1⟩ := at_T84 HR0.out x3_1 p204 q204
    cases e204
    replace p204 := eq_true p204
    replace q204 := eq_true q204
    go_wp2
    repeat (go_quiet (fail); try go_wp2)
    go_ret
    exact ⟨by first | rfl | (simp; done) | (simp [*]; done), by repeat (first | exact Drawn0.refl _ | apply Drawn0.step)⟩
   rw [if_neg c5] at H
   have c5b0 : decide (((rd_T84 l0 x3_1).f0) < 1) = false := decide_eq_false c5
   clear c5
   by_cases c6 : ((rd_T84 l0 x3_1).f0) > 64
   ·rw [if_pos c6] at H
    have c6b0 : decide (64 < ((rd_T84 l0 x3_1).f0)) = true := decide_eq_true c6
    clear c6
    obtain rfl := Option.some.inj H
    have p204 : 0 ≤ (x3_1 : Int) := od_
    have q204 : x3_1 < (l0.length : Int) := od_
    obtain ⟨ad204, e204, hx204_0, hx204_1⟩ := at_T84 HR0.out x3_1 p204 q204
    cases e204
    replace p204 := eq_true p204
    replace q204 := eq_true q204
    have p205 : 0 ≤ (x3_1 : Int) := od_
    have q205 : x3_1 < (l0.length : Int) := od_
    obtain ⟨ad205, e205, hx205_0, hx205_1⟩ := at_T84 HR0.out x3_1 p205 q205
    obtain rfl : ad204 = ad205 := (by injection e205)
    replace p205 := eq_true p205
    replace q205 := eq_true q205
    go_wp2
    repeat (go_quiet (fail); try go_wp2)
    go_ret
    exact ⟨by first | rfl | (simp; done) | (simp [*]; done), by repeat (first | exact Drawn0.refl _ | apply Drawn0.step)⟩
   rw [if_neg c6] at H
   have c6b0 : decide (64 < ((rd_T84 l0 x3_1).f0)) = false := decide_eq_false c6
   clear c6
   by_cases c7 : x3_1 > 0
   rotate_left
   ·rw [if_neg c7] at H
    have c7b0 : decide (0 < x3_1) = false := decide_eq_false c7
    clear c7
    by_cases c14 : ((rd_T84 l0 x3_1).f1) < 1
    ·rw [if_pos c14] at H
     have c14b0 : decide (((rd_T84 l0 x3_1).f1) < 1) = true := decide_eq_true c14
     clear c14
     obtain rfl := Option.some.inj H
     have p204 : 0 ≤ (x3_1 : Int) := od_
     have q204 : x3_1 < (l0.length : Int) := od_
     obtain ⟨ad204, e204, hx204_0, hx204_1⟩ := at_T84 HR0.out x3_1 p204 q204
     cases e204
     replace p204 := eq_true p204
     replace q204 := eq_true q204
     have p205 : 0 ≤ (x3_1 : Int) := od_
     have q205 : x3_1 < (l0.length : Int) := od_
     obtain ⟨ad205, e205, hx205_0, hx205_1⟩ := at_T84 HR0.out x3_1 p205 q205
     obtain rfl : ad204 = ad205 := (by injection e205)
     replace p205 := eq_true p205
     replace q205 := eq_true q205
     have p210 : 0 ≤ (x3_1 : Int) := od_
     have q210 : x3_1 < (l0.length : Int) := od_
     obtain ⟨ad210, e210, hx210_0, hx210_1⟩ := at_T84 HR0.out x3_1 p210 q210
     obtain rfl : ad204 = ad210 := (by injection e210)
     replace p210 := eq_true p210
     replace q210 := eq_true q210
     go_wp2
     repeat (go_quiet (fail); try go_wp2)
     go_ret
     exact ⟨by first | rfl | (simp; done) | (simp [*]; done), by repeat (first | exact Drawn0.refl _ | apply Drawn0.step)⟩
    rw [if_neg c14] at H
    have c14b0 : decide (((rd_T84 l0 x3_1).f1) < 1) = false := decide_eq_false c14
    clear c14
    by_cases c15 : ((rd_T84 l0 x3_1).f1) > 10
    ·rw [if_pos c15] at H
     have c15b0 : decide (10 < ((rd_T84 l0 x3_1).f1)) = true := decide_eq_true c15
     clear c15
     obtain rfl := Option.some.inj H
     have p204 : 0 ≤ (x3_1 : Int) := od_
     have q204 : x3_1 < (l0.length : Int) := od_
     obtain ⟨ad204, e204, hx204_0, hx204_1⟩ := at_T84 HR0.out x3_1 p204 q204
     cases e204
     replace p204 := eq_true p204
     replace q204 := eq_true q204
     have p205 : 0 ≤ (x3_1 : Int) := od_
     have q205 : x3_1 < (l0.length : Int) := od_
     obtain ⟨ad205, e205, hx205_0, hx205_1⟩ := at_T84 HR0.out x3_1 p205 q205
     obtain rfl : ad204 = ad205 := (by injection e205)
     replace p205 := eq_true p205
     replace q205 := eq_true q205
     have p210 : 0 ≤ (x3_1 : Int) := od_
     have q210 : x3_1 < (l0.length : Int) := od_
     obtain ⟨ad210, e210, hx210_0, hx210_1⟩ := at_T84 HR0.out x3_1 p210 q210
     obtain rfl : ad204 = ad210 := (by injection e210)
     replace p210 := eq_true p210
     replace q210 := eq_true q210
     have p211 : 0 ≤ (x3_1 : Int) := od_
     have q211 : x3_1 < (l0.length : Int) := od_
     obtain ⟨ad211, e211, hx211_0, hx211_1⟩ := at_T84 HR0.out x3_1 p211 q211
     obtain rfl : ad204 = ad211 := (by injection e211)
     replace p211 := eq_true p211
     replace q211 := eq_true q211
     go_wp2
     repeat (go_quiet (fail); try go_wp2)
     go_ret
     exact ⟨by first | rfl | (simp; done) | (simp [*]; done), by repeat (first | exact Drawn0.refl _ | apply Drawn0.step)⟩
    rw [if_neg c15] at H
    have c15b0 : decide (10 < ((rd_T84 l0 x3_1).f1)) = false := decide_eq_false c15
    clear c15
    have H' := mk_ H
    clear H
    have p204 : 0 ≤ (x3_1 : Int) := od_
    have q204 : x3_1 < (l0.length : Int) := od_
    obtain ⟨ad204, e204, hx204_0, hx204_1⟩ := at_T84 HR0.out x3_1 p204 q204
    cases e204
    replace p204 := eq_true p204
    replace q204 := eq_true q204
    have p205 : 0 ≤ (x3_1 : Int) := od_
    have q205 : x3_1 < (l0.length : Int) := od_
    obtain ⟨ad205, e205, hx205_0, hx205_1⟩ := at_T84 HR0.out x3_1 p205 q205
    obtain rfl : ad204 = ad205 := (by injection e205)
    replace p205 := eq_true p205
    replace q205 := eq_true q205
    have p210 : 0 ≤ (x3_1 : Int) := od_
    have q210 : x3_1 < (l0.length : Int) := od_
    obtain ⟨ad210, e210, hx210_0, hx210_1⟩ := at_T84 HR0.out x3_1 p210 q210
    obtain rfl : ad204 = ad210 := (by injection e210)
    replace p210 := eq_true p210
    replace q210 := eq_true q210
    have p211 : 0 ≤ (x3_1 : Int) := od_
    have q211 : x3_1 < (l0.length : Int) := od_
    obtain ⟨ad211, e211, hx211_0, hx211_1⟩ := at_T84 HR0.out x3_1 p211 q211
    obtain rfl : ad204 = ad211 := (by injection e211)
    replace p211 := eq_true p211
    replace q211 := eq_true q211
    go_wp2
    repeat (go_quiet (fail); try go_wp2)
    go_roundg k1
    case measure => have := HK1.out; omega
    case rel => exact ⟨(wrap64 (x3_1 + 1)), sd_, H', ⟨by have := HK1.out; omega⟩, by repeat (first | exact Drawn0.refl _ | apply Drawn0.step)⟩
   rw [if_pos c7] at H
   have c7b0 : decide (0 < x3_1) = true := decide_eq_true c7
   clear c7
   obtain ⟨ji8, hji8⟩ : ∃ j_ : Int, (wrap64 (x3_1 - 1)) = j_ := ⟨_, rfl⟩
   replace H : (if 0 ≤ (ji8) then (if (ji8) < (l0.length : Int) then (if ((rd_T84 l0 x3_1).f0) ≤ ((rd_T84 l0 (ji8)).f0) then (some false) else (if ((rd_T84 l0 x3_1).f1) < 1 then (some false) else (if ((rd_T84 l0 x3_1).f1) > 10 then (some false) else (cohousingref23_Flats.l0 k1 l0 (wrap64 (x3_1 + 1)))))) else (none)) else (none)) = some r := by first | (rw [hji8] at H; exact H) | (simp only [hji8] at H ⊢; exact H)
   have hji8w : (IntKind.i64.wrap (x3_1 - 1)) = ji8 := (i64_w _).trans hji8
   by_cases c9 : 0 ≤ (ji8)
   rotate_left
   ·rw [if_neg c9] at H
    exact absurd H (by simp)
   rw [if_pos c9] at H
   have c9b0 : decide (0 ≤ (ji8)) = true := decide_eq_true c9
   clear c9
   by_cases c10 : (ji8) < (l0.length : Int)
   rotate_left
   ·rw [if_neg c10] at H
    exact absurd H (by simp)
   rw [if_pos c10] at H
   have c10b0 : decide ((ji8) < (l0.length : Int)) = true := decide_eq_true c10
   clear c10
   by_cases c11 : ((rd_T84 l0 x3_1).f0) ≤ ((rd_T84 l0 (ji8)).f0)
   ·rw [if_pos c11] at H
    have c11b0 : decide (((rd_T84 l0 x3_1).f0) ≤ ((rd_T84 l0 (ji8)).f0)) = true := decide_eq_true c11
    clear c11
    obtain rfl := Option.some.inj H
    have p204 : 0 ≤ (x3_1 : Int) := od_
    have q204 : x3_1 < (l0.length : Int) := od_
    obtain ⟨ad204, e204, hx204_0, hx204_1⟩ := at_T84 HR0.out x3_1 p204 q204
    cases e204
    replace p204 := eq_true p204
    replace q204 := eq_true q204
    have p205 : 0 ≤ (x3_1 : Int) := od_
    have q205 : x3_1 < (l0.length : Int) := od_
    obtain ⟨ad205, e205, hx205_0, hx205_1⟩ := at_T84 HR0.out x3_1 p205 q205
    obtain rfl : ad204 = ad205 := (by injection e205)
    replace p205 := eq_true p205
    replace q205 := eq_true q205
    have p206 : 0 ≤ (x3_1 : Int) := od_
    have q206 : x3_1 < (l0.length : Int) := od_
    obtain ⟨ad206, e206, hx206_0, hx206_1⟩ := at_T84 HR0.out x3_1 p206 q206
    obtain rfl : ad204 = ad206 := (by injection e206)
    replace p206 := eq_true p206
    replace q206 := eq_true q206
    have p207 : 0 ≤ ((ji8) : Int) := od_
    have q207 : (ji8) < (l0.length : Int) := od_
    obtain ⟨ad207, e207, hx207_0, hx207_1⟩ := at_T84 HR0.out (ji8) p207 q207
    obtain rfl : ad204 = ad207 := (by injection e207)
    replace p207 := eq_true p207
    replace q207 := eq_true q207
    go_wp2
    repeat (go_quiet (fail); try go_wp2)
    go_ret
    exact ⟨by first | rfl | (simp; done) | (simp only [← hji8] <;> (first | rfl | simp)) | (simp [*]; done), by repeat (first | exact Drawn0.refl _ | apply Drawn0.step)⟩
   rw [if_neg c11] at H
   have c11b0 : decide (((rd_T84 l0 x3_1).f0) ≤ ((rd_T84 l0 (ji8)).f0)) = false := decide_eq_false c11
   clear c11
   by_cases c12 : ((rd_T84 l0 x3_1).f1) < 1
   ·rw [if_pos c12] at H
    have c12b0 : decide (((rd_T84 l0 x3_1).f1) < 1) = true := decide_eq_true c12
    clear c12
    obtain rfl := Option.some.inj H
    have p204 : 0 ≤ (x3_1 : Int) := od_
    have q204 : x3_1 < (l0.length : Int) := od_
    obtain ⟨ad204, e204, hx204_0, hx204_1⟩ := at_T84 HR0.out x3_1 p204 q204
    cases e204
    replace p204 := eq_true p204
    replace q204 := eq_true q204
    have p205 : 0 ≤ (x3_1 : Int) := od_
    have q205 : x3_1 < (l0.length : Int) := od_
    obtain ⟨ad205, e205, hx205_0, hx205_1⟩ := at_T84 HR0.out x3_1 p205 q205
    obtain rfl : ad204 = ad205 := (by injection e205)
    replace p205 := eq_true p205
    replace q205 := eq_true q205
    have p206 : 0 ≤ (x3_1 : Int) := od_
    have q206 : x3_1 < (l0.length : Int) := od_
    obtain ⟨ad206, e206, hx206_0, hx206_1⟩ := at_T84 HR0.out x3_1 p206 q206
    obtain rfl : ad204 = ad206 := (by injection e206)
    replace p206 := eq_true p206
    replace q206 := eq_true q206
    have p207 : 0 ≤ ((ji8) : Int) := od_
    have q207 : (ji8) < (l0.length : Int) := od_
    obtain ⟨ad207, e207, hx207_0, hx207_1⟩ := at_T84 HR0.out (ji8) p207 q207
    obtain rfl : ad204 = ad207 := (by injection e207)
    replace p207 := eq_true p207
    replace q207 := eq_true q207
    have p208 : 0 ≤ (x3_1 : Int) := od_
    have q208 : x3_1 < (l0.length : Int) := od_
    obtain ⟨ad208, e208, hx208_0, hx208_1⟩ := at_T84 HR0.out x3_1 p208 q208
    obtain rfl : ad204 = ad208 := (by injection e208)
    replace p208 := eq_true p208
    replace q208 := eq_true q208
    go_wp2
    repeat (go_quiet (fail); try go_wp2)
    go_ret
    exact ⟨by first | rfl | (simp; done) | (simp only [← hji8] <;> (first | rfl | simp)) | (simp [*]; done), by repeat (first | exact Drawn0.refl _ | apply Drawn0.step)⟩
   rw [if_neg c12] at H
   have c12b0 : decide (((rd_T84 l0 x3_1).f1) < 1) = false := decide_eq_false c12
   clear c12
   by_cases c13 : ((rd_T84 l0 x3_1).f1) > 10
   ·rw [if_pos c13] at H
    have c13b0 : decide (10 < ((rd_T84 l0 x3_1).f1)) = true := decide_eq_true c13
    clear c13
    obtain rfl := Option.some.inj H
    have p204 : 0 ≤ (x3_1 : Int) := od_
    have q204 : x3_1 < (l0.length : Int) := od_
    obtain ⟨ad204, e204, hx204_0, hx204_1⟩ := at_T84 HR0.out x3_1 p204 q204
    cases e204
    replace p204 := eq_true p204
    replace q204 := eq_true q204
    have p205 : 0 ≤ (x3_1 : Int) := od_
    have q205 : x3_1 < (l0.length : Int) := od_
    obtain ⟨ad205, e205, hx205_0, hx205_1⟩ := at_T84 HR0.out x3_1 p205 q205
    obtain rfl : ad204 = ad205 := (by injection e205)
    replace p205 := eq_true p205
    replace q205 := eq_true q205
    have p206 : 0 ≤ (x3_1 : Int) := od_
    have q206 : x3_1 < (l0.length : Int) := od_
    obtain ⟨ad206, e206, hx206_0, hx206_1⟩ := at_T84 HR0.out x3_1 p206 q206
    obtain rfl : ad204 = ad206 := (by injection e206)
    replace p206 := eq_true p206
    replace q206 := eq_true q206
    have p207 : 0 ≤ ((ji8) : Int) := od_
    have q207 : (ji8) < (l0.length : Int) := od_
    obtain ⟨ad207, e207, hx207_0, hx207_1⟩ := at_T84 HR0.out (ji8) p207 q207
    obtain rfl : ad204 = ad207 := (by injection e207)
    replace p207 := eq_true p207
    replace q207 := eq_true q207
    have p208 : 0 ≤ (x3_1 : Int) := od_
    have q208 : x3_1 < (l0.length : Int) := od_
    obtain ⟨ad208, e208, hx208_0, hx208_1⟩ := at_T84 HR0.out x3_1 p208 q208
    obtain rfl : ad204 = ad208 := (by injection e208)
    replace p208 := eq_true p208
    replace q208 := eq_true q208
    have p209 : 0 ≤ (x3_1 : Int) := od_
    have q209 : x3_1 < (l0.length : Int) := od_
    obtain ⟨ad209, e209, hx209_0, hx209_1⟩ := at_T84 HR0.out x3_1 p209 q209
    obtain rfl : ad204 = ad209 := (by injection e209)
    replace p209 := eq_true p209
    replace q209 := eq_true q209
    go_wp2
    repeat (go_quiet (fail); try go_wp2)
    go_ret
    exact ⟨by first | rfl | (simp; done) | (simp only [← hji8] <;> (first | rfl | simp)) | (simp [*]; done), by repeat (first | exact Drawn0.refl _ | apply Drawn0.step)⟩
   rw [if_neg c13] at H
   have c13b0 : decide (10 < ((rd_T84 l0 x3_1).f1)) = false := decide_eq_false c13
   clear c13
   have H' := mk_ H
   clear H
   have p204 : 0 ≤ (x3_1 : Int) := od_
   have q204 : x3_1 < (l0.length : Int) := od_
   obtain ⟨ad204, e204, hx204_0, hx204_1⟩ := at_T84 HR0.out x3_1 p204 q204
   cases e204
   replace p204 := eq_true p204
   replace q204 := eq_true q204
   have p205 : 0 ≤ (x3_1 : Int) := od_
   have q205 : x3_1 < (l0.length : Int) := od_
   obtain ⟨ad205, e205, hx205_0, hx205_1⟩ := at_T84 HR0.out x3_1 p205 q205
   obtain rfl : ad204 = ad205 := (by injection e205)
   replace p205 := eq_true p205
   replace q205 := eq_true q205
   have p206 : 0 ≤ (x3_1 : Int) := od_
   have q206 : x3_1 < (l0.length : Int) := od_
   obtain ⟨ad206, e206, hx206_0, hx206_1⟩ := at_T84 HR0.out x3_1 p206 q206
   obtain rfl : ad204 = ad206 := (by injection e206)
   replace p206 := eq_true p206
   replace q206 := eq_true q206
   have p207 : 0 ≤ ((ji8) : Int) := od_
   have q207 : (ji8) < (l0.length : Int) := od_
   obtain ⟨ad207, e207, hx207_0, hx207_1⟩ := at_T84 HR0.out (ji8) p207 q207
   obtain rfl : ad204 = ad207 := (by injection e207)
   replace p207 := eq_true p207
   replace q207 := eq_true q207
   have p208 : 0 ≤ (x3_1 : Int) := od_
   have q208 : x3_1 < (l0.length : Int) := od_
   obtain ⟨ad208, e208, hx208_0, hx208_1⟩ := at_T84 HR0.out x3_1 p208 q208
   obtain rfl : ad204 = ad208 := (by injection e208)
   replace p208 := eq_true p208
   replace q208 := eq_true q208
   have p209 : 0 ≤ (x3_1 : Int) := od_
   have q209 : x3_1 < (l0.length : Int) := od_
   obtain ⟨ad209, e209, hx209_0, hx209_1⟩ := at_T84 HR0.out x3_1 p209 q209
   obtain rfl : ad204 = ad209 := (by injection e209)
   replace p209 := eq_true p209
   replace q209 := eq_true q209
   go_wp2
   repeat (go_quiet (fail); try go_wp2)
   go_roundg k1
   case measure => have := HK1.out; omega
   case rel => exact ⟨(wrap64 (x3_1 + 1)), sd_, H', ⟨by have := HK1.out; omega⟩, by repeat (first | exact Drawn0.refl _ | apply Drawn0.step)⟩
end Go.Proofs.Ytocbiggglnpeoaa.M
end
section
namespace Go.Proofs.Ytocbiggglnpeoaa.M
open Go.RowKit Go.Proofs.YtocbiggglnpeoaaW.PrintWords Go.Proofs.YtocbiggglnpeoaaW.PrintLast Go.Proofs.YtocbiggglnpeoaaW.PrintMore
attribute [local go_sem] max2_int min2_int max_two min_two max_three min_three max_four min_four
set_option linter.unusedVariables false
set_option linter.unusedSimpArgs false
def cohousingref23_Has.l0 : Nat → List (S84) → Int → Int → Option (Bool)
 | 0, _, _, _ => none
 | k + 1, x0, x1, x5 => if x5 < (x0.length : Int) then (if 0 ≤ x5 then (if ((rd_T84 x0 x5).f0) = x1 then (some true) else (cohousingref23_Has.l0 k x0 x1 (wrap64 (x5 + 1)))) else (none)) else (some false)
def cohousingref23_Has.f (k : Nat) (l0 : List (S84)) (a1 : Int) : Option (Bool) := cohousingref23_Has.l0 k l0 a1 0
set_option maxHeartbeats 8000000 in
set_option maxRecDepth 100000 in
theorem cohousingref23_Has.calls (k : Nat) (A0 : Option Addr) (c0 : Nat) (l0 : List (S84)) (a1 : Int) (r : Bool) (w : World) (hr0 : Kd.C k84 w A0 l0.length l0) (hc0 : l0.length ≤ c0) (h : cohousingref23_Has.f k l0 a1 = some r) :
  Calls Try.prog 45 #[.slice A0 l0.length c0, .int .i64 a1] w fun e w' => e = .returned (.bool r) ∧ Drawn0 w w' := by
 have HR0 := mk_ hr0
 have HC0 := mk_ hc0
 clear hr0 hc0
 have H : (cohousingref23_Has.l0 k l0 a1 0) = some r := h
 clear h
 have H' := mk_ H
 clear H
 go_enter Try.func45, Try.ntmps45
 go_wp2
 go_loopg [5] k (fun kq v5 w' => ∃ (x5_1 : Int), v5 = .int .i64 x5_1 ∧ Aside0 (cohousingref23_Has.l0 kq l0 a1 x5_1 = some r) ∧ Aside0 (kq ≤ k) ∧ Drawn0 w w')
 case atStart => exact ⟨(0), sd_, H', ⟨Nat.le_refl _⟩, by repeat (first | exact Drawn0.refl _ | apply Drawn0.step)⟩
 case round =>
  clear H'
  try clear p2
  obtain ⟨x5_1, rfl, HA, HK1, ⟨m1, rfl⟩⟩ := hrel
  cases gk with
  | zero => exact absurd HA.out (by simp [cohousingref23_Has.l0])
  | succ k1 =>
   have H := HA.out
   clear HA
   simp only [cohousingref23_Has.l0] at H
   by_cases c3 : x5_1 < (l0.length : Int)
   rotate_left
   ·rw [if_neg c3] at H
    have c3b0 : decide (x5_1 < (l0.length : Int)) = false := decide_eq_false c3
    clear c3
    obtain rfl := Option.some.inj H
    go_wp2
    go_ret
    exact ⟨by first | rfl | (simp; done) | (simp [*]; done), by repeat (first | exact Drawn0.refl _ | apply Drawn0.step)⟩
   rw [if_pos c3] at H
   have c3b0 : decide (x5_1 < (l0.length : Int)) = true := decide_eq_true c3
   clear c3
   by_cases c4 : 0 ≤ x5_1
   rotate_left
   ·rw [if_neg c4] at H
    exact absurd H (by simp)
   rw [if_pos c4] at H
   have c4b0 : decide (0 ≤ x5_1) = true := decide_eq_true c4
   clear c4
   by_cases c5 : ((rd_T84 l0 x5_1).f0) = a1
   ·rw [if_pos c5] at H
    have c5b0 : (((rd_T84 l0 x5_1).f0) == a1) = true := beq_iff_eq.mpr c5
    have c5b1 : (((rd_T84 l0 x5_1).f0) != a1) = false := bne_eq_false_iff_eq.mpr c5
    clear c5
    obtain rfl := Option.some.inj H
    have p212 : 0 ≤ (x5_1 : Int) := od_
    have q212 : x5_1 < (l0.length : Int) := od_
    obtain ⟨ad212, e212, hx212_0, hx212_1⟩ := at_T84 HR0.out x5_1 p212 q212
    cases e212
    replace p212 := eq_true p212
    replace q212 := eq_true q212
    go_wp2
    go_ret
    exact ⟨by first | rfl | (simp; done) | (simp [*]; done), by repeat (first | exact Drawn0.refl _ | apply Drawn0.step)⟩
   rw [if_neg c5] at H
   have c5b0 : (((rd_T84 l0 x5_1).f0) == a1) = false := beq_eq_false_iff_ne.mpr c5
   have c5b1 : (((rd_T84 l0 x5_1).f0) != a1) = true := bne_iff_ne.mpr c5
   have H' := mk_ H
   clear H
   have p212 : 0 ≤ (x5_1 : Int) := od_
   have q212 : x5_1 < (l0.length : Int) := od_
   obtain ⟨ad212, e212, hx212_0, hx212_1⟩ := at_T84 HR0.out x5_1 p212 q212
   cases e212
   replace p212 := eq_true p212
   replace q212 := eq_true q212
   go_wp2
   go_roundg k1
   case measure => have := HK1.out; omega
   case rel => exact ⟨(wrap64 (x5_1 + 1)), sd_, H', ⟨by have := HK1.out; omega⟩, by repeat (first | exact Drawn0.refl _ | apply Drawn0.step)⟩
end Go.Proofs.Ytocbiggglnpeoaa.M
end
section
namespace Go.Proofs.Ytocbiggglnpeoaa.M
open Go.RowKit Go.Proofs.YtocbiggglnpeoaaW.PrintWords Go.Proofs.YtocbiggglnpeoaaW.PrintLast Go.Proofs.YtocbiggglnpeoaaW.PrintMore
attribute [local go_sem] max2_int min2_int max_two min_two max_three min_three max_four min_four
set_option linter.unusedVariables false
set_option linter.unusedSimpArgs false
mutual
def cohousingref23_Valid.j0 : Nat → Bool → List (S84) → List (S46) → Option (Bool)
 | 0, _, _, _ => none
 | k + 1, x20, x214000, x214001 => if x20 = true then (some false) else (cohousingref23_Valid.l0 k 0 x214000 x214001)
def cohousingref23_Valid.l0 : Nat → Int → List (S84) → List (S46) → Option (Bool)
 | 0, _, _, _ => none
 | k + 1, x4, x214000, x214001 => if x4 < (x214001.length : Int) then (if 0 ≤ x4 then (if ((rd_T46 x214001 x4).f0) < 1 then (cohousingref23_Valid.j2 k x4 true x214000 x214001 ((rd_T46 x214001 x4).f0) ((rd_T46 x214001 x4).f1) ((rd_T46 x214001 x4).f2)) else (if ((rd_T46 x214001 x4).f0) > 64 then (cohousingref23_Valid.j2 k x4 true x214000 x214001 ((rd_T46 x214001 x4).f0) ((rd_T46 x214001 x4).f1) ((rd_T46 x214001 x4).f2)) else (if x4 > 0 then (if 0 ≤ (wrap64 (x4 - 1)) then (if (wrap64 (x4 - 1)) < (x214001.length : Int) then (cohousingref23_Valid.j2 k x4 (decide (((rd_T46 x214001 x4).f0) ≤ ((rd_T46 x214001 (wrap64 (x4 - 1))).f0))) x214000 x214001 ((rd_T46 x214001 x4).f0) ((rd_T46 x214001 x4).f1) ((rd_T46 x214001 x4).f2)) else (none)) else (none)) else (cohousingref23_Valid.j2 k x4 false x214000 x214001 ((rd_T46 x214001 x4).f0) ((rd_T46 x214001 x4).f1) ((rd_T46 x214001 x4).f2))))) else (none)) else (some true)
def cohousingref23_Valid.j2 : Nat → Int → Bool → List (S84) → List (S46) → Int → Int → List Int → Option (Bool)
 | 0, _, _, _, _, _, _, _ => none
 | k + 1, x4, x56, x214000, x214001, x217000, x217001, x217002 => if x56 = true then (some false) else ((cohousingref23_Has.f k x214000 x217001).bind fun t218 => (if x217001 = 0 then (cohousingref23_Valid.j3 k x4 false x214000 x214001 x217000 x217001 x217002) else (cohousingref23_Valid.j3 k x4 (!t218) x214000 x214001 x217000 x217001 x217002)))
def cohousingref23_Valid.j3 : Nat → Int → Bool → List (S84) → List (S46) → Int → Int → List Int → Option (Bool)
 | 0, _, _, _, _, _, _, _ => none
 | k + 1, x4, x68, x214000, x214001, x217000, x217001, x217002 => if x68 = true then (some false) else (cohousingref23_Valid.l1 k x4 0 x214000 x214001 x217000 x217001 x217002)
def cohousingref23_Valid.l1 : Nat → Int → Int → List (S84) → List (S46) → Int → Int → List Int → Option (Bool)
 | 0, _, _, _, _, _, _, _ => none
 | k + 1, x4, x7, x214000, x214001, x217000, x217001, x217002 => if x7 < x4 then (if x217001 = 0 then (cohousingref23_Valid.l1 k x4 (wrap64 (x7 + 1)) x214000 x214001 x217000 x217001 x217002) else (if 0 ≤ x7 then (if x7 < (x214001.length : Int) then (if ((rd_T46 x214001 x7).f1) = x217001 then (some false) else (cohousingref23_Valid.l1 k x4 (wrap64 (x7 + 1)) x214000 x214001 x217000 x217001 x217002)) else (none)) else (none))) else (cohousingref23_Valid.l2 k x4 0 x214000 x214001 x217000 x217001 x217002)
def cohousingref23_Valid.l2 : Nat → Int → Int → List (S84) → List (S46) → Int → Int → List Int → Option (Bool)
 | 0, _, _, _, _, _, _, _ => none
 | k + 1, x4, x8, x214000, x214001, x217000, x217001, x217002 => if x8 < (x217002.length : Int) then (if 0 ≤ x8 then ((cohousingref23_Has.f k x214000 (rd x217002 x8)).bind fun t221 => (if t221 = true then ((cohousingref23_In.f k x217002 (rd x217002 x8)).bind fun t223 => (if t223 = x8 then (cohousingref23_Valid.l2 k x4 (wrap64 (x8 + 1)) x214000 x214001 x217000 x217001 x217002) else (some false))) else (some false))) else (none)) else (cohousingref23_Valid.l0 k (wrap64 (x4 + 1)) x214000 x214001)
end
def cohousingref23_Valid.f (k : Nat) (l0_0 : List (S84)) (l0_1 : List (S46)) : Option (Bool) := (cohousingref23_Flats.f k l0_0).bind fun t214 => (if t214 = true then (cohousingref23_Valid.j0 k (decide ((l0_1.length : Int) > 64)) l0_0 l0_1) else (cohousingref23_Valid.j0 k true l0_0 l0_1))
set_option maxHeartbeats 8000000 in
set_option maxRecDepth 100000 in
theorem cohousingref23_Valid.calls (k : Nat) (A0_0 : Option Addr) (c0_0 : Nat) (l0_0 : List (S84)) (A0_1 : Option Addr) (c0_1 : Nat) (l0_1 : List (S46)) (r : Bool) (w : World) (hr0_0 : Kd.C k84 w A0_0 l0_0.length l0_0) (hc0_0 : l0_0.length ≤ c0_0) (hr0_1 : Kd.C k46 w A0_1 l0_1.length l0_1) (hc0_1 : l0_1.length ≤ c0_1) (h : cohousingref23_Valid.f k l0_0 l0_1 = some r) :
  Calls Try.prog 25 #[.agg #[.slice A0_0 l0_0.length c0_0, .slice A0_1 l0_1.length c0_1]] w fun e w' => e = .returned (.bool r) ∧ Below w.heap.size w w' := by
 have hu25 := Try.underlying25
 have hu46 := Try.underlying46
 have HR0_0 := mk_ hr0_0
 have HC0_0 := mk_ hc0_0
 clear hr0_0 hc0_0
 have HR0_1 := mk_ hr0_1
 have HC0_1 := mk_ hc0_1
 clear hr0_1 hc0_1
 have HB := mk_ (Below.refl w.heap.size w)
 have H : ((cohousingref23_Flats.f k l0_0).bind fun t214 => (if t214 = true then (cohousingref23_Valid.j0 k (decide ((l0_1.length : Int) > 64)) l0_0 l0_1) else (cohousingref23_Valid.j0 k true l0_0 l0_1))) = some r := h
 clear h
 replace H := Option.bind_eq_some_iff.mp H
 obtain ⟨t214, A20, H⟩ := H
 replace H : (if t214 = true then (cohousingref23_Valid.j0 k (decide ((l0_1.length : Int) > 64)) l0_0 l0_1) else (cohousingref23_Valid.j0 k true l0_0 l0_1)) = some r := H
 have A2 := mk_ A20
 clear A20
 have HC3 := mk_ H
 clear H
 go_enter Try.func25, Try.ntmps25
 go_upto_region 2 with (first | ((with_reducible refine gate_dst (N := 1) rfl ?_); (try (refine gate_guard (by rfl) ?_; dsimp only)); refine box_event ?hg (N := 1) ?hd (cs := #[.slice A0_0 l0_0.length c0_0, .slice A0_1 l0_1.length c0_1]) (t := 25) ?hr ?_; (case hd => rfl); (case hg => rfl); (case hr => first | (go_simp; done) | (go_simp; rfl)); intro gb213 hg w4 hbox hb; have n0_ := mk_ (below_step (bb_ HB) hb); have n1_ := mk_ (hbox); have n2_ := mk_ (bz_ hg (bb_ HB)); have n3_ := mk_ (bz_ hg (bb_ HB)); clear HB; revert n0_ n1_ n2_ n3_; intro HB BK213 GW213 GE213; clear hb hbox hg; have hcz5_0 := bc0_ BK213.out; have hcz5_1 := bc1_ BK213.out; have hfz5_0 := blk_frozen BK213.out 0; have hfz5_1 := blk_frozen BK213.out 1) | (go_at_call 44; (with_reducible refine (cohousingref23_Flats.calls k _ _ l0_0 t214 _ ?side1 ?side2 A2.out).mono ?_); (case side1 => exact cc_ ((Kd.C_below HR0_0.out HB.out))); (case side2 => exact HC0_0.out); rintro e w' ⟨rfl, ⟨nd, rfl⟩⟩; (try first | exact ⟨rfl, _, World.drewN_drewN _ _ _⟩ | exact ⟨rfl, _, Eq.trans (World.drewN_drewN _ _ _) (congrArg (World.drewN _) (Nat.add_assoc _ _ _))⟩)))
 repeat (go_quiet (first | fail); go_upto_region 2 with (first | fail))
 (try simp only [Act.put, sI_, s0_, sS_])
 go_cut [20] (fun v20 wc => ∃ (kq : Nat) (x20_2 : Bool), v20 = .bool x20_2 ∧ Aside0 (cohousingref23_Valid.j0 kq x20_2 l0_0 l0_1 = some r) ∧ Aside0 (kq ≤ k) ∧ Aside0 (wc.heap[gb213]? = some (.cells #[(.slice A0_0 l0_0.length c0_0), (.slice A0_1 l0_1.length c0_1)] 25 (0, 0))) ∧ Aside0 (Below w.heap.size w wc))
 case first =>
  have H := HC3.out
  clear HC3
  by_cases c6 : t214 = true
  rotate_left
  ·replace c6 := Bool.eq_false_iff.mpr c6
   subst c6
   have H1 : (cohousingref23_Valid.j0 k true l0_0 l0_1) = some r := by rw [if_neg (show ¬ (false = true) by decide)] at H; exact H
   clear H
   have H := H1
   clear H1
   have H' := mk_ H
   clear H
   go_wp2
   repeat (go_quiet (fail); try go_wp2)
   go_meet
   case rel => exact ⟨_, (true), sd_, H', ⟨by first | omega | exact Nat.le_refl _⟩, ⟨kk_ BK213⟩, ⟨bs1_ HB GE213⟩⟩
  subst c6
  have H1 : (cohousingref23_Valid.j0 k (decide ((l0_1.length : Int) > 64)) l0_0 l0_1) = some r := by rw [if_pos rfl] at H; exact H
  clear H
  have H := H1
  clear H1
  have H' := mk_ H
  clear H
  have hcz7_0 := bc0_ BK213.out
  have hcz7_1 := bc1_ BK213.out
  have hfz7_0 := blk_frozen BK213.out 0
  have hfz7_1 := blk_frozen BK213.out 1
  go_wp2
  repeat (go_quiet (fail); try go_wp2)
  go_meet
  case rel => exact ⟨_, (decide ((l0_1.length : Int) > 64)), sd_, H', ⟨by first | omega | exact Nat.le_refl _⟩, ⟨kk_ BK213⟩, ⟨bs1_ HB GE213⟩⟩
 case rest =>
  clear HC3
  try clear c2; try clear p2; try clear c6; try clear hcz5_0; try clear hcz5_1; try clear hcz7_0; try clear hcz7_1; try clear hfz5_0; try clear hfz5_1; try clear hfz7_0; try clear hfz7_1
  obtain ⟨kq, x20_2, rfl, HA, HJ2, BK213, HB⟩ := hcut
  cases kq with
  | zero => exact absurd HA.out (by simp [cohousingref23_Valid.j0])
  | succ kj2 =>
   have H := HA.out
   clear HA
   simp only [cohousingref23_Valid.j0] at H
   by_cases c8 : x20_2 = true
   ·subst c8
    have H1 : (some false) = some r := by rw [if_pos rfl] at H; exact H
    clear H
    have H := H1
    clear H1
    obtain rfl := Option.some.inj H
    go_wp2
    repeat (go_quiet (fail); try go_wp2)
    go_ret
    exact ⟨ew_, bs1_ HB GE213⟩
   replace c8 := Bool.eq_false_iff.mpr c8
   subst c8
   have H1 : (cohousingref23_Valid.l0 kj2 0 l0_0 l0_1) = some r := by rw [if_neg (show ¬ (false = true) by decide)] at H; exact H
   clear H
   have H := H1
   clear H1
   have H' := mk_ H
   clear H
   go_wp2
   repeat (go_quiet (fail); try go_wp2)
   go_loopg [4] kj2 (fun kq v4 w' => ∃ (x4_2 : Int), v4 = .int .i64 x4_2 ∧ Aside0 (cohousingref23_Valid.l0 kq x4_2 l0_0 l0_1 = some r) ∧ Aside0 (kq ≤ kj2) ∧ Aside0 (w'.heap[gb213]? = some (.cells #[(.slice A0_0 l0_0.length c0_0), (.slice A0_1 l0_1.length c0_1)] 25 (0, 0))) ∧ Aside0 (Below w.heap.size w w'))
   case atStart => exact ⟨(0), sd_, H', ⟨Nat.le_refl _⟩, ⟨kk_ BK213⟩, ⟨bs1_ HB GE213⟩⟩
   case round =>
    clear H'
    try clear c2; try clear p2; try clear c6; try clear c8; try clear hcz5_0; try clear hcz5_1; try clear hcz7_0; try clear hcz7_1; try clear hfz5_0; try clear hfz5_1; try clear hfz7_0; try clear hfz7_1; try clear p2
    obtain ⟨x4_2, rfl, HA, HK2, BK213, HB⟩ := hrel
    cases gk with
    | zero => exact absurd HA.out (by simp [cohousingref23_Valid.l0])
    | succ k2 =>
     have H := HA.out
     clear HA
     simp only [cohousingref23_Valid.l0] at H
     by_cases c9 : x4_2 < (l0_1.length : Int)
     rotate_left
     ·rw [if_neg c9] at H
      have c9b0 : decide (x4_2 < (l0_1.length : Int)) = false := decide_eq_false c9
      clear c9
      obtain rfl := Option.some.inj H
      have hcz73_0 := bc0_ BK213.out
      have hcz73_1 := bc1_ BK213.out
      have hfz73_0 := blk_frozen BK213.out 0
      have hfz73_1 := blk_frozen BK213.out 1
      go_wp2
      repeat (go_quiet (fail); try go_wp2)
      go_ret
      exact ⟨ew_, bs1_ HB GE213⟩
     rw [if_pos c9] at H
     have c9b0 : decide (x4_2 < (l0_1.length : Int)) = true := decide_eq_true c9
     clear c9
     by_cases c10 : 0 ≤ x4_2
     rotate_left
     ·rw [if_neg c10] at H
      exact absurd H (by simp)
     rw [if_pos c10] at H
     have c10b0 : decide (0 ≤ x4_2) = true := decide_eq_true c10
     clear c10
     have HC11 := mk_ H
     clear H
     have hcz12_0 := bc0_ BK213.out
     have hcz12_1 := bc1_ BK213.out
     have hfz12_0 := blk_frozen BK213.out 0
     have hfz12_1 := blk_frozen BK213.out 1
     have p215 : 0 ≤ (x4_2 : Int) := od_
     have q215 : x4_2 < (l0_1.length : Int) := od_
     obtain ⟨ad215, A215_2, c215_2, e215, hx215_0, hx215_1, hx215_2, hl215_2, hi215_2⟩ := at_T46 HR0_1.out x4_2 p215 q215
     cases e215
     replace hx215_0 := cb_ HB hx215_0
     replace hx215_1 := cb_ HB hx215_1
     replace hx215_2 := cb_ HB hx215_2
     have HR215_2 := mk_ hi215_2
     have HC215_2 := mk_ hl215_2
     clear hi215_2 hl215_2
     replace p215 := eq_true p215
     replace q215 := eq_true q215
     go_upto_region 8 with (first | ((with_reducible refine gate_dst (N := 5) rfl ?_); (try (refine gate_guard (by rfl) ?_; dsimp only)); refine box_event ?hg (N := 5) ?hd (cs := #[.int .i64 0, .int .i64 0, .slice none 0 0]) (t := 46) ?hr ?_; (case hd => rfl); (case hg => rfl); (case hr => first | (go_simp; done) | (go_simp; rfl)); intro gb216 hg w13 hbox hb; have n0_ := mk_ (blk_below (kk_ BK213) hb); have n1_ := mk_ (below_step (bs_ HB GE213.out) hb); have n2_ := mk_ (hbox); have n3_ := mk_ (bz_ hg (bs_ HB GE213.out)); have n4_ := mk_ (bz_ hg (bs_ HB GE213.out)); have n5_ := mk_ (bl_ hg (kk_ BK213)); have n6_ := mk_ (bg_ hg (kk_ BK213)); clear BK213 HB; revert n0_ n1_ n2_ n3_ n4_ n5_ n6_; intro BK213 HB BK216 GW216 GE216 NB213_216 NB216_213; clear hb hbox hg; have hnb14 := NB216_213.out; have hnc14 := NB213_216.out; have hcz15_0 := bc0_ BK216.out; have hcz15_1 := bc1_ BK216.out; have hcz15_2 := bc2_ BK216.out; have hfz15_0 := blk_frozen BK216.out 0; have hfz15_1 := blk_frozen BK216.out 1; have hfz15_2 := blk_frozen BK216.out 2))
     repeat (go_quiet (first | fail); go_upto_region 8 with (first | fail))
     (try simp only [Act.put, sI_, s0_, sS_])
     go_cut [56] (fun v56 wc => ∃ (kq : Nat) (x56_10 : Bool), v56 = .bool x56_10 ∧ Aside0 (cohousingref23_Valid.j2 kq x4_2 x56_10 l0_0 l0_1 ((rd_T46 l0_1 x4_2).f0) ((rd_T46 l0_1 x4_2).f1) ((rd_T46 l0_1 x4_2).f2) = some r) ∧ Aside0 (kq ≤ k2) ∧ Aside0 (wc.heap[gb213]? = some (.cells #[(.slice A0_0 l0_0.length c0_0), (.slice (some ad215) l0_1.length c0_1)] 25 (0, 0))) ∧ Aside0 (wc.heap[gb216]? = some (.cells #[.int .i64 ((rd_T46 l0_1 x4_2).f0), .int .i64 ((rd_T46 l0_1 x4_2).f1), (.slice A215_2 ((rd_T46 l0_1 x4_2).f2).length c215_2)] 46 (0, 0))) ∧ Aside0 (Below w.heap.size w wc))
     case first =>
      have H := HC11.out
      clear HC11
      by_cases c16 : ((rd_T46 l0_1 x4_2).f0) < 1
      ·rw [if_pos c16] at H
       have c16b0 : decide (((rd_T46 l0_1 x4_2).f0) < 1) = true := decide_eq_true c16
       clear c16
       (first | rw [c16b0] | (simp only [i64_w, i32_w]; rw [c16b0]) | skip)
       have H' := mk_ H
       clear H
       have hnb17 := NB216_213.out
       have hnc17 := NB213_216.out
       have hcz18_0 := bc0_ BK216.out
       have hcz18_1 := bc1_ BK216.out
       have hcz18_2 := bc2_ BK216.out
       have hfz18_0 := blk_frozen BK216.out 0
       have hfz18_1 := blk_frozen BK216.out 1
       have hfz18_2 := blk_frozen BK216.out 2
       go_wp2
       repeat (go_quiet (fail); try go_wp2)
       go_meet
       case rel => exact ⟨_, (true), sd_, H', ⟨by have := HJ2.out; have := HK2.out; first | omega | exact Nat.le_refl _⟩, ⟨by (with_reducible repeat (first | refine blk_drewN ?_ _ | refine blk_drew ?_ | refine blk_alloc ?_ _)); refine blk_far ?_ NB213_216.out _; (with_reducible repeat (first | refine blk_drewN ?_ _ | refine blk_drew ?_ | refine blk_alloc ?_ _)); refine blk_far ?_ NB213_216.out _; (with_reducible repeat (first | refine blk_drewN ?_ _ | refine blk_drew ?_ | refine blk_alloc ?_ _)); refine blk_far ?_ NB213_216.out _; (with_reducible repeat (first | refine blk_drewN ?_ _ | refine blk_drew ?_ | refine blk_alloc ?_ _)); exact BK213.out⟩, ⟨by (with_reducible repeat (first | refine blk_drewN ?_ _ | refine blk_drew ?_ | refine blk_alloc ?_ _)); refine blk_put (cs := #[.int .i64 ((rd_T46 l0_1 x4_2).f0), .int .i64 ((rd_T46 l0_1 x4_2).f1), .slice none 0 0]) ?_ 2 _ rfl; (with_reducible repeat (first | refine blk_drewN ?_ _ | refine blk_drew ?_ | refine blk_alloc ?_ _)); refine blk_put (cs := #[.int .i64 ((rd_T46 l0_1 x4_2).f0), .int .i64 0, .slice none 0 0]) ?_ 1 _ rfl; (with_reducible repeat (first | refine blk_drewN ?_ _ | refine blk_drew ?_ | refine blk_alloc ?_ _)); refine blk_put (cs := #[.int .i64 0, .int .i64 0, .slice none 0 0]) ?_ 0 _ rfl; (with_reducible repeat (first | refine blk_drewN ?_ _ | refine blk_drew ?_ | refine blk_alloc ?_ _)); exact BK216.out⟩, ⟨bs2_ HB GE213 GE216⟩⟩
      rw [if_neg c16] at H
      have c16b0 : decide (((rd_T46 l0_1 x4_2).f0) < 1) = false := decide_eq_false c16
      clear c16
      (first | rw [c16b0] | (simp only [i64_w, i32_w]; rw [c16b0]) | skip)
      by_cases c19 : ((rd_T46 l0_1 x4_2).f0) > 64
      ·rw [if_pos c19] at H
       have c19b0 : decide (64 < ((rd_T46 l0_1 x4_2).f0)) = true := decide_eq_true c19
       clear c19
       have H' := mk_ H
       clear H
       have hnb20 := NB216_213.out
       have hnc20 := NB213_216.out
       have hcz21_0 := bc0_ BK216.out
       have hcz21_1 := bc1_ BK216.out
       have hcz21_2 := bc2_ BK216.out
       have hfz21_0 := blk_frozen BK216.out 0
       have hfz21_1 := blk_frozen BK216.out 1
       have hfz21_2 := blk_frozen BK216.out 2
       go_wp2
       repeat (go_quiet (fail); try go_wp2)
       go_meet
       case rel => exact ⟨_, (true), sd_, H', ⟨by have := HJ2.out; have := HK2.out; first | omega | exact Nat.le_refl _⟩, ⟨by (with_reducible repeat (first | refine blk_drewN ?_ _ | refine blk_drew ?_ | refine blk_alloc ?_ _)); refine blk_far ?_ NB213_216.out _; (with_reducible repeat (first | refine blk_drewN ?_ _ | refine blk_drew ?_ | refine blk_alloc ?_ _)); refine blk_far ?_ NB213_216.out _; (with_reducible repeat (first | refine blk_drewN ?_ _ | refine blk_drew ?_ | refine blk_alloc ?_ _)); refine blk_far ?_ NB213_216.out _; (with_reducible repeat (first | refine blk_drewN ?_ _ | refine blk_drew ?_ | refine blk_alloc ?_ _)); exact BK213.out⟩, ⟨by (with_reducible repeat (first | refine blk_drewN ?_ _ | refine blk_drew ?_ | refine blk_alloc ?_ _)); refine blk_put (cs := #[.int .i64 ((rd_T46 l0_1 x4_2).f0), .int .i64 ((rd_T46 l0_1 x4_2).f1), .slice none 0 0]) ?_ 2 _ rfl; (with_reducible repeat (first | refine blk_drewN ?_ _ | refine blk_drew ?_ | refine blk_alloc ?_ _)); refine blk_put (cs := #[.int .i64 ((rd_T46 l0_1 x4_2).f0), .int .i64 0, .slice none 0 0]) ?_ 1 _ rfl; (with_reducible repeat (first | refine blk_drewN ?_ _ | refine blk_drew ?_ | refine blk_alloc ?_ _)); refine blk_put (cs := #[.int .i64 0, .int .i64 0, .slice none 0 0]) ?_ 0 _ rfl; (with_reducible repeat (first | refine blk_drewN ?_ _ | refine blk_drew ?_ | refine blk_alloc ?_ _)); exact BK216.out⟩, ⟨bs2_ HB GE213 GE216⟩⟩
      rw [if_neg c19] at H
      have c19b0 : decide (64 < ((rd_T46 l0_1 x4_2).f0)) = false := decide_eq_false c19
      clear c19
      by_cases c22 : x4_2 > 0
      rotate_left
      ·rw [if_neg c22] at H
       have c22b0 : decide (0 < x4_2) = false := decide_eq_false c22
       clear c22
       have H' := mk_ H
       clear H
       have hnb29 := NB216_213.out
       have hnc29 := NB213_216.out
       have hcz30_0 := bc0_ BK216.out
       have hcz30_1 := bc1_ BK216.out
       have hcz30_2 := bc2_ BK216.out
       have hfz30_0 := blk_frozen BK216.out 0
       have hfz30_1 := blk_frozen BK216.out 1
       have hfz30_2 := blk_frozen BK216.out 2
       go_wp2
       repeat (go_quiet (fail); try go_wp2)
       go_meet
       case rel => exact ⟨_, (false), sd_, H', ⟨by have := HJ2.out; have := HK2.out; first | omega | exact Nat.le_refl _⟩, ⟨by (with_reducible repeat (first | refine blk_drewN ?_ _ | refine blk_drew ?_ | refine blk_alloc ?_ _)); refine blk_far ?_ NB213_216.out _; (with_reducible repeat (first | refine blk_drewN ?_ _ | refine blk_drew ?_ | refine blk_alloc ?_ _)); refine blk_far ?_ NB213_216.out _; (with_reducible repeat (first | refine blk_drewN ?_ _ | refine blk_drew ?_ | refine blk_alloc ?_ _)); refine blk_far ?_ NB213_216.out _; (with_reducible repeat (first | refine blk_drewN ?_ _ | refine blk_drew ?_ | refine blk_alloc ?_ _)); exact BK213.out⟩, ⟨by (with_reducible repeat (first | refine blk_drewN ?_ _ | refine blk_drew ?_ | refine blk_alloc ?_ _)); refine blk_put (cs := #[.int .i64 ((rd_T46 l0_1 x4_2).f0), .int .i64 ((rd_T46 l0_1 x4_2).f1), .slice none 0 0]) ?_ 2 _ rfl; (with_reducible repeat (first | refine blk_drewN ?_ _ | refine blk_drew ?_ | refine blk_alloc ?_ _)); refine blk_put (cs := #[.int .i64 ((rd_T46 l0_1 x4_2).f0), .int .i64 0, .slice none 0 0]) ?_ 1 _ rfl; (with_reducible repeat (first | refine blk_drewN ?_ _ | refine blk_drew ?_ | refine blk_alloc ?_ _)); refine blk_put (cs := #[.int .i64 0, .int .i64 0, .slice none 0 0]) ?_ 0 _ rfl; (with_reducible repeat (first | refine blk_drewN ?_ _ | refine blk_drew ?_ | refine blk_alloc ?_ _)); exact BK216.out⟩, ⟨bs2_ HB GE213 GE216⟩⟩
      rw [if_pos c22] at H
      have c22b0 : decide (0 < x4_2) = true := decide_eq_true c22
      clear c22
      obtain ⟨ji23, hji23⟩ : ∃ j_ : Int, (wrap64 (x4_2 - 1)) = j_ := ⟨_, rfl⟩
      replace H : (if 0 ≤ (ji23) then (if (ji23) < (l0_1.length : Int) then (cohousingref23_Valid.j2 k2 x4_2 (decide (((rd_T46 l0_1 x4_2).f0) ≤ ((rd_T46 l0_1 (ji23)).f0))) l0_0 l0_1 ((rd_T46 l0_1 x4_2).f0) ((rd_T46 l0_1 x4_2).f1) ((rd_T46 l0_1 x4_2).f2)) else (none)) else (none)) = some r := by first | (rw [hji23] at H; exact H) | (simp only [hji23] at H ⊢; exact H)
      have hji23w : (IntKind.i64.wrap (x4_2 - 1)) = ji23 := (i64_w _).trans hji23
      by_cases c24 : 0 ≤ (ji23)
      rotate_left
      ·rw [if_neg c24] at H
       exact absurd H (by simp)
      rw [if_pos c24] at H
      have c24b0 : decide (0 ≤ (ji23)) = true := decide_eq_true c24
      clear c24
      by_cases c25 : (ji23) < (l0_1.length : Int)
      rotate_left
      ·rw [if_neg c25] at H
       exact absurd H (by simp)
      rw [if_pos c25] at H
      have c25b0 : decide ((ji23) < (l0_1.length : Int)) = true := decide_eq_true c25
      clear c25
      have H' := mk_ H
      clear H
      have hnb26 := NB216_213.out
      have hnc26 := NB213_216.out
      have hcz27_0 := bc0_ BK216.out
      have hcz27_1 := bc1_ BK216.out
      have hcz27_2 := bc2_ BK216.out
      have hfz27_0 := blk_frozen BK216.out 0
      have hfz27_1 := blk_frozen BK216.out 1
      have hfz27_2 := blk_frozen BK216.out 2
      have hcz28_0 := bc0_ BK213.out
      have hcz28_1 := bc1_ BK213.out
      have hfz28_0 := blk_frozen BK213.out 0
      have hfz28_1 := blk_frozen BK213.out 1
      have p217 : 0 ≤ ((ji23) : Int) := od_
      have q217 : (ji23) < (l0_1.length : Int) := od_
      obtain ⟨ad217, A217_2, c217_2, e217, hx217_0, hx217_1, hx217_2, hl217_2, hi217_2⟩ := at_T46 HR0_1.out (ji23) p217 q217
      obtain rfl : ad215 = ad217 := (by injection e217)
      have hn217_0 : ad215.block ≠ gb216 := Nat.ne_of_lt (Nat.lt_of_lt_of_le (by have := World.block_lt_of_cell? _ _ hx217_0; first | rwa [add_block] at this | exact this) GW216.out)
      have hn217_1 : ad215.block ≠ gb216 := Nat.ne_of_lt (Nat.lt_of_lt_of_le (by have := World.block_lt_of_cell? _ _ hx217_0; first | rwa [add_block] at this | exact this) GW216.out)
      have hn217_2 : ad215.block ≠ gb216 := Nat.ne_of_lt (Nat.lt_of_lt_of_le (by have := World.block_lt_of_cell? _ _ hx217_0; first | rwa [add_block] at this | exact this) GW216.out)
      replace hx217_0 := cb_ HB hx217_0
      replace hx217_1 := cb_ HB hx217_1
      replace hx217_2 := cb_ HB hx217_2
      have HR217_2 := mk_ hi217_2
      have HC217_2 := mk_ hl217_2
      clear hi217_2 hl217_2
      replace hx217_0 := (cell_far (p := ⟨gb216, 0, none⟩) (by first | (rw [add_block]; exact hn217_0) | (show (Addr.add _ _).block ≠ _; rw [add_block]; exact hn217_0) | exact hn217_0) (.int .i64 ((rd_T46 l0_1 x4_2).f0))).trans hx217_0
      replace hx217_1 := (cell_far (p := ⟨gb216, 0, none⟩) (by first | (rw [add_block]; exact hn217_0) | (show (Addr.add _ _).block ≠ _; rw [add_block]; exact hn217_0) | exact hn217_0) (.int .i64 ((rd_T46 l0_1 x4_2).f0))).trans hx217_1
      replace hx217_2 := (cell_far (p := ⟨gb216, 0, none⟩) (by first | (rw [add_block]; exact hn217_0) | (show (Addr.add _ _).block ≠ _; rw [add_block]; exact hn217_0) | exact hn217_0) (.int .i64 ((rd_T46 l0_1 x4_2).f0))).trans hx217_2
      replace hx217_0 := (cell_far (p := ⟨gb216, 1, none⟩) (by first | (rw [add_block]; exact hn217_1) | (show (Addr.add _ _).block ≠ _; rw [add_block]; exact hn217_1) | exact hn217_1) (.int .i64 ((rd_T46 l0_1 x4_2).f1))).trans hx217_0
      replace hx217_1 := (cell_far (p := ⟨gb216, 1, none⟩) (by first | (rw [add_block]; exact hn217_1) | (show (Addr.add _ _).block ≠ _; rw [add_block]; exact hn217_1) | exact hn217_1) (.int .i64 ((rd_T46 l0_1 x4_2).f1))).trans hx217_1
      replace hx217_2 := (cell_far (p := ⟨gb216, 1, none⟩) (by first | (rw [add_block]; exact hn217_1) | (show (Addr.add _ _).block ≠ _; rw [add_block]; exact hn217_1) | exact hn217_1) (.int .i64 ((rd_T46 l0_1 x4_2).f1))).trans hx217_2
      replace hx217_0 := (cell_far (p := ⟨gb216, 2, none⟩) (by first | (rw [add_block]; exact hn217_2) | (show (Addr.add _ _).block ≠ _; rw [add_block]; exact hn217_2) | exact hn217_2) (.slice A215_2 ((rd_T46 l0_1 x4_2).f2).length c215_2)).trans hx217_0
      replace hx217_1 := (cell_far (p := ⟨gb216, 2, none⟩) (by first | (rw [add_block]; exact hn217_2) | (show (Addr.add _ _).block ≠ _; rw [add_block]; exact hn217_2) | exact hn217_2) (.slice A215_2 ((rd_T46 l0_1 x4_2).f2).length c215_2)).trans hx217_1
      replace hx217_2 := (cell_far (p := ⟨gb216, 2, none⟩) (by first | (rw [add_block]; exact hn217_2) | (show (Addr.add _ _).block ≠ _; rw [add_block]; exact hn217_2) | exact hn217_2) (.slice A215_2 ((rd_T46 l0_1 x4_2).f2).length c215_2)).trans hx217_2
      (try have hy217_0 := fun (n_ : Nat) => (show (((((w13.drewN n_).setCell ⟨gb216, 0, none⟩ (.int .i64 ((rd_T46 l0_1 x4_2).f0))).setCell ⟨gb216, 1, none⟩ (.int .i64 ((rd_T46 l0_1 x4_2).f1))).setCell ⟨gb216, 2, none⟩ (.slice A215_2 ((rd_T46 l0_1 x4_2).f2).length c215_2))).cell? _ = some _ from hx217_0))
      (try have hy217_1 := fun (n_ : Nat) => (show (((((w13.drewN n_).setCell ⟨gb216, 0, none⟩ (.int .i64 ((rd_T46 l0_1 x4_2).f0))).setCell ⟨gb216, 1, none⟩ (.int .i64 ((rd_T46 l0_1 x4_2).f1))).setCell ⟨gb216, 2, none⟩ (.slice A215_2 ((rd_T46 l0_1 x4_2).f2).length c215_2))).cell? _ = some _ from hx217_1))
      (try have hy217_2 := fun (n_ : Nat) => (show (((((w13.drewN n_).setCell ⟨gb216, 0, none⟩ (.int .i64 ((rd_T46 l0_1 x4_2).f0))).setCell ⟨gb216, 1, none⟩ (.int .i64 ((rd_T46 l0_1 x4_2).f1))).setCell ⟨gb216, 2, none⟩ (.slice A215_2 ((rd_T46 l0_1 x4_2).f2).length c215_2))).cell? _ = some _ from hx217_2))
      clear hn217_0
      clear hn217_1
      clear hn217_2
      replace p217 := eq_true p217
      replace q217 := eq_true q217
      go_wp2
      repeat (go_quiet (fail); try go_wp2)
      go_meet
      case rel => exact ⟨_, (decide (((rd_T46 l0_1 x4_2).f0) ≤ ((rd_T46 l0_1 (ji23)).f0))), (by first | rfl | (simp; done) | (simp only [← hji23] <;> (first | rfl | simp)) | (simp [*]; done)), H', ⟨by have := HJ2.out; have := HK2.out; first | omega | exact Nat.le_refl _⟩, ⟨by (with_reducible repeat (first | refine blk_drewN ?_ _ | refine blk_drew ?_ | refine blk_alloc ?_ _)); refine blk_far ?_ NB213_216.out _; (with_reducible repeat (first | refine blk_drewN ?_ _ | refine blk_drew ?_ | refine blk_alloc ?_ _)); refine blk_far ?_ NB213_216.out _; (with_reducible repeat (first | refine blk_drewN ?_ _ | refine blk_drew ?_ | refine blk_alloc ?_ _)); refine blk_far ?_ NB213_216.out _; (with_reducible repeat (first | refine blk_drewN ?_ _ | refine blk_drew ?_ | refine blk_alloc ?_ _)); exact BK213.out⟩, ⟨by (with_reducible repeat (first | refine blk_drewN ?_ _ | refine blk_drew ?_ | refine blk_alloc ?_ _)); refine blk_put (cs := #[.int .i64 ((rd_T46 l0_1 x4_2).f0), .int .i64 ((rd_T46 l0_1 x4_2).f1), .slice none 0 0]) ?_ 2 _ rfl; (with_reducible repeat (first | refine blk_drewN ?_ _ | refine blk_drew ?_ | refine blk_alloc ?_ _)); refine blk_put (cs := #[.int .i64 ((rd_T46 l0_1 x4_2).f0), .int .i64 0, .slice none 0 0]) ?_ 1 _ rfl; (with_reducible repeat (first | refine blk_drewN ?_ _ | refine blk_drew ?_ | refine blk_alloc ?_ _)); refine blk_put (cs := #[.int .i64 0, .int .i64 0, .slice none 0 0]) ?_ 0 _ rfl; (with_reducible repeat (first | refine blk_drewN ?_ _ | refine blk_drew ?_ | refine blk_alloc ?_ _)); exact BK216.out⟩, ⟨bs2_ HB GE213 GE216⟩⟩
     case rest =>
      clear HC11
      try clear c1; try clear c2; try clear p2; try clear q2; try clear hx2; try clear c6; try clear p6; try clear c8; try clear c9; try clear c9b0; try clear c10; try clear c10b0; try clear c14; try clear c16; try clear c16b0; try clear c17; try clear c19; try clear c19b0; try clear c20; try clear c21; try clear p21; try clear q21; try clear hx21; try clear c22; try clear c22b0; try clear c24; try clear c24b0; try clear c25; try clear c25b0; try clear c26; try clear c29; try clear hcz12_0; try clear hcz12_1; try clear hcz15_0; try clear hcz15_1; try clear hcz15_2; try clear hcz18_0; try clear hcz18_1; try clear hcz18_2; try clear hcz21_0; try clear hcz21_1; try clear hcz21_2; try clear hcz27_0; try clear hcz27_1; try clear hcz27_2; try clear hcz28_0; try clear hcz28_1; try clear hcz30_0; try clear hcz30_1; try clear hcz30_2; try clear hcz5_0; try clear hcz5_1; try clear hcz7_0; try clear hcz7_1; try clear hfz12_0; try clear hfz12_1; try clear hfz15_0; try clear hfz15_1; try clear hfz15_2; try clear hfz18_0; try clear hfz18_1; try clear hfz18_2; try clear hfz21_0; try clear hfz21_1; try clear hfz21_2; try clear hfz27_0; try clear hfz27_1; try clear hfz27_2; try clear hfz28_0; try clear hfz28_1; try clear hfz30_0; try clear hfz30_1; try clear hfz30_2; try clear hfz5_0; try clear hfz5_1; try clear hfz7_0; try clear hfz7_1; try clear hx215_0; try clear hx215_1; try clear hx215_2; try clear hx217_0; try clear hx217_1; try clear hx217_2; try clear p2; try clear p215; try clear p217; try clear q215; try clear q217
      obtain ⟨kq, x56_10, rfl, HA, HJ10, BK213, BK216, HB⟩ := hcut
      cases kq with
      | zero => exact absurd HA.out (by simp [cohousingref23_Valid.j2])
      | succ kj10 =>
       have H := HA.out
       clear HA
       simp only [cohousingref23_Valid.j2] at H
       by_cases c31 : x56_10 = true
       ·subst c31
        have H1 : (some false) = some r := by rw [if_pos rfl] at H; exact H
        clear H
        have H := H1
        clear H1
        obtain rfl := Option.some.inj H
        go_wp2
        repeat (go_quiet (fail); try go_wp2)
        go_ret
        exact ⟨ew_, bs2_ HB GE213 GE216⟩
       replace c31 := Bool.eq_false_iff.mpr c31
       subst c31
       have H1 : ((cohousingref23_Has.f kj10 l0_0 ((rd_T46 l0_1 x4_2).f1)).bind fun t218 => (if ((rd_T46 l0_1 x4_2).f1) = 0 then (cohousingref23_Valid.j3 kj10 x4_2 false l0_0 l0_1 ((rd_T46 l0_1 x4_2).f0) ((rd_T46 l0_1 x4_2).f1) ((rd_T46 l0_1 x4_2).f2)) else (cohousingref23_Valid.j3 kj10 x4_2 (!t218) l0_0 l0_1 ((rd_T46 l0_1 x4_2).f0) ((rd_T46 l0_1 x4_2).f1) ((rd_T46 l0_1 x4_2).f2)))) = some r := by rw [if_neg (show ¬ (false = true) by decide)] at H; exact H
       clear H
       have H := H1
       clear H1
       replace H := Option.bind_eq_some_iff.mp H
       obtain ⟨t218, A320, H⟩ := H
       replace H : (if ((rd_T46 l0_1 x4_2).f1) = 0 then (cohousingref23_Valid.j3 kj10 x4_2 false l0_0 l0_1 ((rd_T46 l0_1 x4_2).f0) ((rd_T46 l0_1 x4_2).f1) ((rd_T46 l0_1 x4_2).f2)) else (cohousingref23_Valid.j3 kj10 x4_2 (!t218) l0_0 l0_1 ((rd_T46 l0_1 x4_2).f0) ((rd_T46 l0_1 x4_2).f1) ((rd_T46 l0_1 x4_2).f2))) = some r := H
       have A32 := mk_ A320
       clear A320
       have HC33 := mk_ H
       clear H
       have hnb34 := NB213_216.out
       have hnc34 := NB216_213.out
       have hcz35_0 := bc0_ BK213.out
       have hcz35_1 := bc1_ BK213.out
       have hfz35_0 := blk_frozen BK213.out 0
       have hfz35_1 := blk_frozen BK213.out 1
       have hcz36_0 := bc0_ BK216.out
       have hcz36_1 := bc1_ BK216.out
       have hcz36_2 := bc2_ BK216.out
       have hfz36_0 := blk_frozen BK216.out 0
       have hfz36_1 := blk_frozen BK216.out 1
       have hfz36_2 := blk_frozen BK216.out 2
       go_upto_region 11 with (first | (go_at_call 45; (with_reducible refine (cohousingref23_Has.calls kj10 _ _ l0_0 ((rd_T46 l0_1 x4_2).f1) t218 _ ?side1 ?side2 A32.out).mono ?_); (case side1 => exact cc_ ((Kd.C_below HR0_0.out HB.out))); (case side2 => exact HC0_0.out); rintro e w' ⟨rfl, ⟨nd, rfl⟩⟩; (try first | exact ⟨rfl, _, World.drewN_drewN _ _ _⟩ | exact ⟨rfl, _, Eq.trans (World.drewN_drewN _ _ _) (congrArg (World.drewN _) (Nat.add_assoc _ _ _))⟩)))
       repeat (go_quiet (first | fail); go_upto_region 11 with (first | fail))
       (try simp only [Act.put, sI_, s0_, sS_])
       go_cut [68] (fun v68 wc => ∃ (kq : Nat) (x68_32 : Bool), v68 = .bool x68_32 ∧ Aside0 (cohousingref23_Valid.j3 kq x4_2 x68_32 l0_0 l0_1 ((rd_T46 l0_1 x4_2).f0) ((rd_T46 l0_1 x4_2).f1) ((rd_T46 l0_1 x4_2).f2) = some r) ∧ Aside0 (kq ≤ kj10) ∧ Aside0 (wc.heap[gb213]? = some (.cells #[(.slice A0_0 l0_0.length c0_0), (.slice (some ad215) l0_1.length c0_1)] 25 (0, 0))) ∧ Aside0 (wc.heap[gb216]? = some (.cells #[.int .i64 ((rd_T46 l0_1 x4_2).f0), .int .i64 ((rd_T46 l0_1 x4_2).f1), (.slice A215_2 ((rd_T46 l0_1 x4_2).f2).length c215_2)] 46 (0, 0))) ∧ Aside0 (Below w.heap.size w wc))
       case first =>
        have H := HC33.out
        clear HC33
        by_cases c37 : ((rd_T46 l0_1 x4_2).f1) = 0
        rotate_left
        ·rw [if_neg c37] at H
         have c37b0 : (((rd_T46 l0_1 x4_2).f1) == 0) = false := beq_eq_false_iff_ne.mpr c37
         have c37b1 : (((rd_T46 l0_1 x4_2).f1) != 0) = true := bne_iff_ne.mpr c37
         (first | rw [c37b0] | (simp only [i64_w, i32_w]; rw [c37b0]) | skip)
         have H' := mk_ H
         clear H
         have hnb40 := NB216_213.out
         have hnc40 := NB213_216.out
         have hcz41_0 := bc0_ BK216.out
         have hcz41_1 := bc1_ BK216.out
         have hcz41_2 := bc2_ BK216.out
         have hfz41_0 := blk_frozen BK216.out 0
         have hfz41_1 := blk_frozen BK216.out 1
         have hfz41_2 := blk_frozen BK216.out 2
         go_wp2
         repeat (go_quiet (fail); try go_wp2)
         go_meet
         case rel => exact ⟨_, (!t218), sd_, H', ⟨by have := HJ2.out; have := HK2.out; have := HJ10.out; first | omega | exact Nat.le_refl _⟩, ⟨kk_ BK213⟩, ⟨kk_ BK216⟩, ⟨bs2_ HB GE213 GE216⟩⟩
        rw [if_pos c37] at H
        have c37b0 : (((rd_T46 l0_1 x4_2).f1) == 0) = true := beq_iff_eq.mpr c37
        have c37b1 : (((rd_T46 l0_1 x4_2).f1) != 0) = false := bne_eq_false_iff_eq.mpr c37
        clear c37
        (first | rw [c37b0] | (simp only [i64_w, i32_w]; rw [c37b0]) | skip)
        have H' := mk_ H
        clear H
        have hnb38 := NB216_213.out
        have hnc38 := NB213_216.out
        have hcz39_0 := bc0_ BK216.out
        have hcz39_1 := bc1_ BK216.out
        have hcz39_2 := bc2_ BK216.out
        have hfz39_0 := blk_frozen BK216.out 0
        have hfz39_1 := blk_frozen BK216.out 1
        have hfz39_2 := blk_frozen BK216.out 2
        go_wp2
        repeat (go_quiet (fail); try go_wp2)
        go_meet
        case rel => exact ⟨_, (false), sd_, H', ⟨by have := HJ2.out; have := HK2.out; have := HJ10.out; first | omega | exact Nat.le_refl _⟩, ⟨kk_ BK213⟩, ⟨kk_ BK216⟩, ⟨bs2_ HB GE213 GE216⟩⟩
       case rest =>
        clear HC33
        try clear c1; try clear c2; try clear p2; try clear q2; try clear hx2; try clear c3; try clear c4; try clear c6; try clear p6; try clear c8; try clear c9; try clear c9b0; try clear c10; try clear c10b0; try clear c14; try clear c16; try clear c16b0; try clear c17; try clear c19; try clear c19b0; try clear c20; try clear c21; try clear p21; try clear q21; try clear hx21; try clear c22; try clear c22b0; try clear c24; try clear c24b0; try clear c25; try clear c25b0; try clear c26; try clear c29; try clear c31; try clear c34; try clear c37; try clear c37b0; try clear c37b1; try clear c38; try clear c40; try clear hcz12_0; try clear hcz12_1; try clear hcz15_0; try clear hcz15_1; try clear hcz15_2; try clear hcz18_0; try clear hcz18_1; try clear hcz18_2; try clear hcz21_0; try clear hcz21_1; try clear hcz21_2; try clear hcz27_0; try clear hcz27_1; try clear hcz27_2; try clear hcz28_0; try clear hcz28_1; try clear hcz30_0; try clear hcz30_1; try clear hcz30_2; try clear hcz35_0; try clear hcz35_1; try clear hcz36_0; try clear hcz36_1; try clear hcz36_2; try clear hcz39_0; try clear hcz39_1; try clear hcz39_2; try clear hcz41_0; try clear hcz41_1; try clear hcz41_2; try clear hcz5_0; try clear hcz5_1; try clear hcz7_0; try clear hcz7_1; try clear hfz12_0; try clear hfz12_1; try clear hfz15_0; try clear hfz15_1; try clear hfz15_2; try clear hfz18_0; try clear hfz18_1; try clear hfz18_2; try clear hfz21_0; try clear hfz21_1; try clear hfz21_2; try clear hfz27_0; try clear hfz27_1; try clear hfz27_2; try clear hfz28_0; try clear hfz28_1; try clear hfz30_0; try clear hfz30_1; try clear hfz30_2; try clear hfz35_0; try clear hfz35_1; try clear hfz36_0; try clear hfz36_1; try clear hfz36_2; try clear hfz39_0; try clear hfz39_1; try clear hfz39_2; try clear hfz41_0; try clear hfz41_1; try clear hfz41_2; try clear hfz5_0; try clear hfz5_1; try clear hfz7_0; try clear hfz7_1; try clear hx215_0; try clear hx215_1; try clear hx215_2; try clear hx217_0; try clear hx217_1; try clear hx217_2; try clear p2; try clear p21; try clear p215; try clear p217; try clear p6; try clear q2; try clear q21; try clear q215; try clear q217
        obtain ⟨kq, x68_32, rfl, HA, HJ32, BK213, BK216, HB⟩ := hcut
        cases kq with
        | zero => exact absurd HA.out (by simp [cohousingref23_Valid.j3])
        | succ kj32 =>
         have H := HA.out
         clear HA
         simp only [cohousingref23_Valid.j3] at H
         by_cases c42 : x68_32 = true
         ·subst c42
          have H1 : (some false) = some r := by rw [if_pos rfl] at H; exact H
          clear H
          have H := H1
          clear H1
          obtain rfl := Option.some.inj H
          go_wp2
          repeat (go_quiet (fail); try go_wp2)
          go_ret
          exact ⟨ew_, bs2_ HB GE213 GE216⟩
         replace c42 := Bool.eq_false_iff.mpr c42
         subst c42
         have H1 : (cohousingref23_Valid.l1 kj32 x4_2 0 l0_0 l0_1 ((rd_T46 l0_1 x4_2).f0) ((rd_T46 l0_1 x4_2).f1) ((rd_T46 l0_1 x4_2).f2)) = some r := by rw [if_neg (show ¬ (false = true) by decide)] at H; exact H
         clear H
         have H := H1
         clear H1
         have H' := mk_ H
         clear H
         go_wp2
         repeat (go_quiet (fail); try go_wp2)
         go_loopg [7] kj32 (fun kq v7 w' => ∃ (x7_5 : Int), v7 = .int .i64 x7_5 ∧ Aside0 (cohousingref23_Valid.l1 kq x4_2 x7_5 l0_0 l0_1 ((rd_T46 l0_1 x4_2).f0) ((rd_T46 l0_1 x4_2).f1) ((rd_T46 l0_1 x4_2).f2) = some r) ∧ Aside0 (kq ≤ kj32) ∧ Aside0 (w'.heap[gb213]? = some (.cells #[(.slice A0_0 l0_0.length c0_0), (.slice (some ad215) l0_1.length c0_1)] 25 (0, 0))) ∧ Aside0 (w'.heap[gb216]? = some (.cells #[.int .i64 ((rd_T46 l0_1 x4_2).f0), .int .i64 ((rd_T46 l0_1 x4_2).f1), (.slice A215_2 ((rd_T46 l0_1 x4_2).f2).length c215_2)] 46 (0, 0))) ∧ Aside0 (Below w.heap.size w w'))
         case atStart => exact ⟨(0), sd_, H', ⟨Nat.le_refl _⟩, ⟨kk_ BK213⟩, ⟨kk_ BK216⟩, ⟨bs2_ HB GE213 GE216⟩⟩
         case round =>
          clear H'
          try clear c1; try clear c2; try clear p2; try clear q2; try clear hx2; try clear c3; try clear c4; try clear c6; try clear p6; try clear c8; try clear c9; try clear c9b0; try clear c10; try clear c10b0; try clear c14; try clear c16; try clear c16b0; try clear c17; try clear c19; try clear c19b0; try clear c20; try clear c21; try clear p21; try clear q21; try clear hx21; try clear c22; try clear c22b0; try clear c24; try clear c24b0; try clear c25; try clear c25b0; try clear c26; try clear c29; try clear c31; try clear c34; try clear c37; try clear c37b0; try clear c37b1; try clear c38; try clear c40; try clear c42; try clear hcz12_0; try clear hcz12_1; try clear hcz15_0; try clear hcz15_1; try clear hcz15_2; try clear hcz18_0; try clear hcz18_1; try clear hcz18_2; try clear hcz21_0; try clear hcz21_1; try clear hcz21_2; try clear hcz27_0; try clear hcz27_1; try clear hcz27_2; try clear hcz28_0; try clear hcz28_1; try clear hcz30_0; try clear hcz30_1; try clear hcz30_2; try clear hcz35_0; try clear hcz35_1; try clear hcz36_0; try clear hcz36_1; try clear hcz36_2; try clear hcz39_0; try clear hcz39_1; try clear hcz39_2; try clear hcz41_0; try clear hcz41_1; try clear hcz41_2; try clear hcz5_0; try clear hcz5_1; try clear hcz7_0; try clear hcz7_1; try clear hfz12_0; try clear hfz12_1; try clear hfz15_0; try clear hfz15_1; try clear hfz15_2; try clear hfz18_0; try clear hfz18_1; try clear hfz18_2; try clear hfz21_0; try clear hfz21_1; try clear hfz21_2; try clear hfz27_0; try clear hfz27_1; try clear hfz27_2; try clear hfz28_0; try clear hfz28_1; try clear hfz30_0; try clear hfz30_1; try clear hfz30_2; try clear hfz35_0; try clear hfz35_1; try clear hfz36_0; try clear hfz36_1; try clear hfz36_2; try clear hfz39_0; try clear hfz39_1; try clear hfz39_2; try clear hfz41_0; try clear hfz41_1; try clear hfz41_2; try clear hfz5_0; try clear hfz5_1; try clear hfz7_0; try clear hfz7_1; try clear hx215_0; try clear hx215_1; try clear hx215_2; try clear hx217_0; try clear hx217_1; try clear hx217_2; try clear p2; try clear p21; try clear p215; try clear p217; try clear p6; try clear q2; try clear q21; try clear q215; try clear q217
          obtain ⟨x7_5, rfl, HA, HK5, BK213, BK216, HB⟩ := hrel
          cases gk with
          | zero => exact absurd HA.out (by simp [cohousingref23_Valid.l1])
          | succ k5 =>
           have H := HA.out
           clear HA
           simp only [cohousingref23_Valid.l1] at H
           by_cases c43 : x7_5 < x4_2
           ·rw [if_pos c43] at H
            have c43b0 : decide (x7_5 < x4_2) = true := decide_eq_true c43
            clear c43
            by_cases c44 : ((rd_T46 l0_1 x4_2).f1) = 0
            ·rw [if_pos c44] at H
             have c44b0 : (((rd_T46 l0_1 x4_2).f1) == 0) = true := beq_iff_eq.mpr c44
             have c44b1 : (((rd_T46 l0_1 x4_2).f1) != 0) = false := bne_eq_false_iff_eq.mpr c44
             clear c44
             have H' := mk_ H
             clear H
             have hnb45 := NB216_213.out
             have hnc45 := NB213_216.out
             have hcz46_0 := bc0_ BK216.out
             have hcz46_1 := bc1_ BK216.out
             have hcz46_2 := bc2_ BK216.out
             have hfz46_0 := blk_frozen BK216.out 0
             have hfz46_1 := blk_frozen BK216.out 1
             have hfz46_2 := blk_frozen BK216.out 2
             go_wp2
             repeat (go_quiet (fail); try go_wp2)
             go_roundg k5
             case measure => have := HJ2.out; have := HK2.out; have := HJ10.out; have := HJ32.out; have := HK5.out; omega
             case rel => exact ⟨(wrap64 (x7_5 + 1)), sd_, H', ⟨by have := HJ2.out; have := HK2.out; have := HJ10.out; have := HJ32.out; have := HK5.out; omega⟩, ⟨kk_ BK213⟩, ⟨kk_ BK216⟩, ⟨bs2_ HB GE213 GE216⟩⟩
            rw [if_neg c44] at H
            have c44b0 : (((rd_T46 l0_1 x4_2).f1) == 0) = false := beq_eq_false_iff_ne.mpr c44
            have c44b1 : (((rd_T46 l0_1 x4_2).f1) != 0) = true := bne_iff_ne.mpr c44
            by_cases c47 : 0 ≤ x7_5
            rotate_left
            ·rw [if_neg c47] at H
             exact absurd H (by simp)
            rw [if_pos c47] at H
            have c47b0 : decide (0 ≤ x7_5) = true := decide_eq_true c47
            clear c47
            by_cases c48 : x7_5 < (l0_1.length : Int)
            rotate_left
            ·rw [if_neg c48] at H
             exact absurd H (by simp)
            rw [if_pos c48] at H
            have c48b0 : decide (x7_5 < (l0_1.length : Int)) = true := decide_eq_true c48
            clear c48
            by_cases c49 : ((rd_T46 l0_1 x7_5).f1) = ((rd_T46 l0_1 x4_2).f1)
            ·rw [if_pos c49] at H
             have c49b0 : (((rd_T46 l0_1 x7_5).f1) == ((rd_T46 l0_1 x4_2).f1)) = true := beq_iff_eq.mpr c49
             have c49b1 : (((rd_T46 l0_1 x7_5).f1) != ((rd_T46 l0_1 x4_2).f1)) = false := bne_eq_false_iff_eq.mpr c49
             clear c49
             obtain rfl := Option.some.inj H
             have hnb50 := NB216_213.out
             have hnc50 := NB213_216.out
             have hcz51_0 := bc0_ BK216.out
             have hcz51_1 := bc1_ BK216.out
             have hcz51_2 := bc2_ BK216.out
             have hfz51_0 := blk_frozen BK216.out 0
             have hfz51_1 := blk_frozen BK216.out 1
             have hfz51_2 := blk_frozen BK216.out 2
             have hcz52_0 := bc0_ BK213.out
             have hcz52_1 := bc1_ BK213.out
             have hfz52_0 := blk_frozen BK213.out 0
             have hfz52_1 := blk_frozen BK213.out 1
             have p219 : 0 ≤ (x7_5 : Int) := od_
             have q219 : x7_5 < (l0_1.length : Int) := od_
             obtain ⟨ad219, A219_2, c219_2, e219, hx219_0, hx219_1, hx219_2, hl219_2, hi219_2⟩ := at_T46 HR0_1.out x7_5 p219 q219
             obtain rfl : ad215 = ad219 := (by injection e219)
             replace hx219_0 := cb_ HB hx219_0
             replace hx219_1 := cb_ HB hx219_1
             replace hx219_2 := cb_ HB hx219_2
             have HR219_2 := mk_ hi219_2
             have HC219_2 := mk_ hl219_2
             clear hi219_2 hl219_2
             replace p219 := eq_true p219
             replace q219 := eq_true q219
             go_wp2
             repeat (go_quiet (fail); try go_wp2)
             go_ret
             exact ⟨ew_, bs2_ HB GE213 GE216⟩
            rw [if_neg c49] at H
            have c49b0 : (((rd_T46 l0_1 x7_5).f1) == ((rd_T46 l0_1 x4_2).f1)) = false := beq_eq_false_iff_ne.mpr c49
            have c49b1 : (((rd_T46 l0_1 x7_5).f1) != ((rd_T46 l0_1 x4_2).f1)) = true := bne_iff_ne.mpr c49
            have H' := mk_ H
            clear H
            have hnb53 := NB216_213.out
            have hnc53 := NB213_216.out
            have hcz54_0 := bc0_ BK216.out
            have hcz54_1 := bc1_ BK216.out
            have hcz54_2 := bc2_ BK216.out
            have hfz54_0 := blk_frozen BK216.out 0
            have hfz54_1 := blk_frozen BK216.out 1
            have hfz54_2 := blk_frozen BK216.out 2
            have hcz55_0 := bc0_ BK213.out
            have hcz55_1 := bc1_ BK213.out
            have hfz55_0 := blk_frozen BK213.out 0
            have hfz55_1 := blk_frozen BK213.out 1
            have p219 : 0 ≤ (x7_5 : Int) := od_
            have q219 : x7_5 < (l0_1.length : Int) := od_
            obtain ⟨ad219, A219_2, c219_2, e219, hx219_0, hx219_1, hx219_2, hl219_2, hi219_2⟩ := at_T46 HR0_1.out x7_5 p219 q219
            obtain rfl : ad215 = ad219 := (by injection e219)
            replace hx219_0 := cb_ HB hx219_0
            replace hx219_1 := cb_ HB hx219_1
            replace hx219_2 := cb_ HB hx219_2
            have HR219_2 := mk_ hi219_2
            have HC219_2 := mk_ hl219_2
            clear hi219_2 hl219_2
            replace p219 := eq_true p219
            replace q219 := eq_true q219
            go_wp2
            repeat (go_quiet (fail); try go_wp2)
            go_roundg k5
            case measure => have := HJ2.out; have := HK2.out; have := HJ10.out; have := HJ32.out; have := HK5.out; omega
            case rel => exact ⟨(wrap64 (x7_5 + 1)), sd_, H', ⟨by have := HJ2.out; have := HK2.out; have := HJ10.out; have := HJ32.out; have := HK5.out; omega⟩, ⟨kk_ BK213⟩, ⟨kk_ BK216⟩, ⟨bs2_ HB GE213 GE216⟩⟩
           rw [if_neg c43] at H
           have c43b0 : decide (x7_5 < x4_2) = false := decide_eq_false c43
           clear c43
           have H' := mk_ H
           clear H
           go_wp2
           repeat (go_quiet (fail); try go_wp2)
           go_loopg [8] k5 (fun kq v8 w' => ∃ (x8_6 : Int), v8 = .int .i64 x8_6 ∧ Aside0 (cohousingref23_Valid.l2 kq x4_2 x8_6 l0_0 l0_1 ((rd_T46 l0_1 x4_2).f0) ((rd_T46 l0_1 x4_2).f1) ((rd_T46 l0_1 x4_2).f2) = some r) ∧ Aside0 (kq ≤ k5) ∧ Aside0 (w'.heap[gb213]? = some (.cells #[(.slice A0_0 l0_0.length c0_0), (.slice (some ad215) l0_1.length c0_1)] 25 (0, 0))) ∧ Aside0 (w'.heap[gb216]? = some (.cells #[.int .i64 ((rd_T46 l0_1 x4_2).f0), .int .i64 ((rd_T46 l0_1 x4_2).f1), (.slice A215_2 ((rd_T46 l0_1 x4_2).f2).length c215_2)] 46 (0, 0))) ∧ Aside0 (Below w.heap.size w w'))
           case atStart => exact ⟨(0), sd_, H', ⟨Nat.le_refl _⟩, ⟨kk_ BK213⟩, ⟨kk_ BK216⟩, ⟨bs2_ HB GE213 GE216⟩⟩
           case round =>
            clear H'
            try clear c1; try clear c2; try clear p2; try clear q2; try clear hx2; try clear c3; try clear c4; try clear c5; try clear c6; try clear p6; try clear c8; try clear c9; try clear c9b0; try clear c10; try clear c10b0; try clear c14; try clear c16; try clear c16b0; try clear c17; try clear c19; try clear c19b0; try clear c20; try clear c21; try clear p21; try clear q21; try clear hx21; try clear c22; try clear c22b0; try clear c24; try clear c24b0; try clear c25; try clear c25b0; try clear c26; try clear c29; try clear c31; try clear c34; try clear c37; try clear c37b0; try clear c37b1; try clear c38; try clear c40; try clear c42; try clear c43; try clear c43b0; try clear c44; try clear c44b0; try clear c44b1; try clear c45; try clear c47; try clear c47b0; try clear c48; try clear c48b0; try clear c49; try clear c49b0; try clear c49b1; try clear c50; try clear c53; try clear hcz12_0; try clear hcz12_1; try clear hcz15_0; try clear hcz15_1; try clear hcz15_2; try clear hcz18_0; try clear hcz18_1; try clear hcz18_2; try clear hcz21_0; try clear hcz21_1; try clear hcz21_2; try clear hcz27_0; try clear hcz27_1; try clear hcz27_2; try clear hcz28_0; try clear hcz28_1; try clear hcz30_0; try clear hcz30_1; try clear hcz30_2; try clear hcz35_0; try clear hcz35_1; try clear hcz36_0; try clear hcz36_1; try clear hcz36_2; try clear hcz39_0; try clear hcz39_1; try clear hcz39_2; try clear hcz41_0; try clear hcz41_1; try clear hcz41_2; try clear hcz46_0; try clear hcz46_1; try clear hcz46_2; try clear hcz51_0; try clear hcz51_1; try clear hcz51_2; try clear hcz52_0; try clear hcz52_1; try clear hcz54_0; try clear hcz54_1; try clear hcz54_2; try clear hcz55_0; try clear hcz55_1; try clear hcz5_0; try clear hcz5_1; try clear hcz7_0; try clear hcz7_1; try clear hfz12_0; try clear hfz12_1; try clear hfz15_0; try clear hfz15_1; try clear hfz15_2; try clear hfz18_0; try clear hfz18_1; try clear hfz18_2; try clear hfz21_0; try clear hfz21_1; try clear hfz21_2; try clear hfz27_0; try clear hfz27_1; try clear hfz27_2; try clear hfz28_0; try clear hfz28_1; try clear hfz30_0; try clear hfz30_1; try clear hfz30_2; try clear hfz35_0; try clear hfz35_1; try clear hfz36_0; try clear hfz36_1; try clear hfz36_2; try clear hfz39_0; try clear hfz39_1; try clear hfz39_2; try clear hfz41_0; try clear hfz41_1; try clear hfz41_2; try clear hfz46_0; try clear hfz46_1; try clear hfz46_2; try clear hfz51_0; try clear hfz51_1; try clear hfz51_2; try clear hfz52_0; try clear hfz52_1; try clear hfz54_0; try clear hfz54_1; try clear hfz54_2; try clear hfz55_0; try clear hfz55_1; try clear hfz5_0; try clear hfz5_1; try clear hfz7_0; try clear hfz7_1; try clear hx215_0; try clear hx215_1; try clear hx215_2; try clear hx217_0; try clear hx217_1; try clear hx217_2; try clear hx219_0; try clear hx219_1; try clear hx219_2; try clear p2; try clear p21; try clear p215; try clear p217; try clear p219; try clear p6; try clear q2; try clear q21; try clear q215; try clear q217; try clear q219
            obtain ⟨x8_6, rfl, HA, HK6, BK213, BK216, HB⟩ := hrel
            cases gk with
            | zero => exact absurd HA.out (by simp [cohousingref23_Valid.l2])
            | succ k6 =>
             have H := HA.out
             clear HA
             simp only [cohousingref23_Valid.l2] at H
             by_cases c56 : x8_6 < (((rd_T46 l0_1 x4_2).f2).length : Int)
             rotate_left
             ·rw [if_neg c56] at H
              have c56b0 : decide (x8_6 < (((rd_T46 l0_1 x4_2).f2).length : Int)) = false := decide_eq_false c56
              clear c56
              have H' := mk_ H
              clear H
              have hnb71 := NB216_213.out
              have hnc71 := NB213_216.out
              have hcz72_0 := bc0_ BK216.out
              have hcz72_1 := bc1_ BK216.out
              have hcz72_2 := bc2_ BK216.out
              have hfz72_0 := blk_frozen BK216.out 0
              have hfz72_1 := blk_frozen BK216.out 1
              have hfz72_2 := blk_frozen BK216.out 2
              go_wp2
              repeat (go_quiet (fail); try go_wp2)
              go_roundg k6
              case measure => have := HJ2.out; have := HK2.out; have := HJ10.out; have := HJ32.out; have := HK5.out; have := HK6.out; omega
              case rel => exact ⟨(wrap64 (x4_2 + 1)), sd_, H', ⟨by have := HJ2.out; have := HK2.out; have := HJ10.out; have := HJ32.out; have := HK5.out; have := HK6.out; omega⟩, ⟨kk_ BK213⟩, ⟨bs2_ HB GE213 GE216⟩⟩
             rw [if_pos c56] at H
             have c56b0 : decide (x8_6 < (((rd_T46 l0_1 x4_2).f2).length : Int)) = true := decide_eq_true c56
             clear c56
             by_cases c57 : 0 ≤ x8_6
             rotate_left
             ·rw [if_neg c57] at H
              exact absurd H (by simp)
             rw [if_pos c57] at H
             have c57b0 : decide (0 ≤ x8_6) = true := decide_eq_true c57
             clear c57
             replace H := Option.bind_eq_some_iff.mp H
             obtain ⟨t221, A580, H⟩ := H
             replace H : (if t221 = true then ((cohousingref23_In.f k6 ((rd_T46 l0_1 x4_2).f2) (rd ((rd_T46 l0_1 x4_2).f2) x8_6)).bind fun t223 => (if t223 = x8_6 then (cohousingref23_Valid.l2 k6 x4_2 (wrap64 (x8_6 + 1)) l0_0 l0_1 ((rd_T46 l0_1 x4_2).f0) ((rd_T46 l0_1 x4_2).f1) ((rd_T46 l0_1 x4_2).f2)) else (some false))) else (some false)) = some r := H
             have A58 := mk_ A580
             clear A580
             by_cases c59 : t221 = true
             rotate_left
             ·replace c59 := Bool.eq_false_iff.mpr c59
              subst c59
              have H1 : (some false) = some r := by rw [if_neg (show ¬ (false = true) by decide)] at H; exact H
              clear H
              have H := H1
              clear H1
              obtain rfl := Option.some.inj H
              have hnb68 := NB216_213.out
              have hnc68 := NB213_216.out
              have hcz69_0 := bc0_ BK216.out
              have hcz69_1 := bc1_ BK216.out
              have hcz69_2 := bc2_ BK216.out
              have hfz69_0 := blk_frozen BK216.out 0
              have hfz69_1 := blk_frozen BK216.out 1
              have hfz69_2 := blk_frozen BK216.out 2
              have hcz70_0 := bc0_ BK213.out
              have hcz70_1 := bc1_ BK213.out
              have hfz70_0 := blk_frozen BK213.out 0
              have hfz70_1 := blk_frozen BK213.out 1
              have p220 : 0 ≤ (x8_6 : Int) := od_
              have q220 : x8_6 < (((rd_T46 l0_1 x4_2).f2).length : Int) := od_
              obtain ⟨ad220, e220, hx220_0⟩ := Kd.at_int HR215_2.out x8_6 p220 q220
              cases e220
              replace hx220_0 := cb_ HB hx220_0
              replace p220 := eq_true p220
              replace q220 := eq_true q220
              go_wp2_with (first | fail)
              repeat (go_quiet (first | (go_at_call 45; (with_reducible refine (cohousingref23_Has.calls k6 _ _ l0_0 (rd ((rd_T46 l0_1 x4_2).f2) x8_6) false _ ?side1 ?side2 A58.out).mono ?_); (case side1 => exact cc_ ((Kd.C_below HR0_0.out HB.out))); (case side2 => exact HC0_0.out); rintro e w' ⟨rfl, ⟨nd, rfl⟩⟩; (try first | exact ⟨rfl, _, World.drewN_drewN _ _ _⟩ | exact ⟨rfl, _, Eq.trans (World.drewN_drewN _ _ _) (congrArg (World.drewN _) (Nat.add_assoc _ _ _))⟩))); try go_wp2_with (first | fail))
              go_ret
              exact ⟨ew_, bs2_ HB GE213 GE216⟩
             subst c59
             have H1 : ((cohousingref23_In.f k6 ((rd_T46 l0_1 x4_2).f2) (rd ((rd_T46 l0_1 x4_2).f2) x8_6)).bind fun t223 => (if t223 = x8_6 then (cohousingref23_Valid.l2 k6 x4_2 (wrap64 (x8_6 + 1)) l0_0 l0_1 ((rd_T46 l0_1 x4_2).f0) ((rd_T46 l0_1 x4_2).f1) ((rd_T46 l0_1 x4_2).f2)) else (some false))) = some r := by rw [if_pos rfl] at H; exact H
             clear H
             have H := H1
             clear H1
             replace H := Option.bind_eq_some_iff.mp H
             obtain ⟨t223, A600, H⟩ := H
             replace H : (if t223 = x8_6 then (cohousingref23_Valid.l2 k6 x4_2 (wrap64 (x8_6 + 1)) l0_0 l0_1 ((rd_T46 l0_1 x4_2).f0) ((rd_T46 l0_1 x4_2).f1) ((rd_T46 l0_1 x4_2).f2)) else (some false)) = some r := H
             have A60 := mk_ A600
             clear A600
             by_cases c61 : t223 = x8_6
             rotate_left
             ·rw [if_neg c61] at H
              have c61b0 : (t223 == x8_6) = false := beq_eq_false_iff_ne.mpr c61
              have c61b1 : (t223 != x8_6) = true := bne_iff_ne.mpr c61
              obtain rfl := Option.some.inj H
              have hnb65 := NB216_213.out
              have hnc65 := NB213_216.out
              have hcz66_0 := bc0_ BK216.out
              have hcz66_1 := bc1_ BK216.out
              have hcz66_2 := bc2_ BK216.out
              have hfz66_0 := blk_frozen BK216.out 0
              have hfz66_1 := blk_frozen BK216.out 1
              have hfz66_2 := blk_frozen BK216.out 2
              have hcz67_0 := bc0_ BK213.out
              have hcz67_1 := bc1_ BK213.out
              have hfz67_0 := blk_frozen BK213.out 0
              have hfz67_1 := blk_frozen BK213.out 1
              have p220 : 0 ≤ (x8_6 : Int) := od_
              have q220 : x8_6 < (((rd_T46 l0_1 x4_2).f2).length : Int) := od_
              obtain ⟨ad220, e220, hx220_0⟩ := Kd.at_int HR215_2.out x8_6 p220 q220
              cases e220
              replace hx220_0 := cb_ HB hx220_0
              replace p220 := eq_true p220
              replace q220 := eq_true q220
              go_wp2_with (first | fail)
              repeat (go_quiet (first | (go_at_call 45; (with_reducible refine (cohousingref23_Has.calls k6 _ _ l0_0 (rd ((rd_T46 l0_1 x4_2).f2) x8_6) true _ ?side1 ?side2 A58.out).mono ?_); (case side1 => exact cc_ ((Kd.C_below HR0_0.out HB.out))); (case side2 => exact HC0_0.out); rintro e w' ⟨rfl, ⟨nd, rfl⟩⟩; (try first | exact ⟨rfl, _, World.drewN_drewN _ _ _⟩ | exact ⟨rfl, _, Eq.trans (World.drewN_drewN _ _ _) (congrArg (World.drewN _) (Nat.add_assoc _ _ _))⟩); have p222 : 0 ≤ (x8_6 : Int) := od_; have q222 : x8_6 < (((rd_T46 l0_1 x4_2).f2).length : Int) := od_; obtain ⟨ad222, e222, hx222_0⟩ := Kd.at_int HR215_2.out x8_6 p222 q222; obtain rfl : ad220 = ad222 := (by injection e222); replace hx222_0 := cb_ HB hx222_0; replace p222 := eq_true p222; replace q222 := eq_true q222) | (go_at_call 24; (with_reducible refine (cohousingref23_In.calls k6 _ _ ((rd_T46 l0_1 x4_2).f2) (rd ((rd_T46 l0_1 x4_2).f2) x8_6) t223 _ ?side1 ?side2 A60.out).mono ?_); (case side1 => repeat (first | exact (Kd.C_below HR215_2.out (bs2_ HB GE213 GE216)) | (with_reducible refine Kd.C_alloc ?_ _) | (with_reducible refine Kd.C_drewN ?_ _) | (with_reducible refine Kd.C_drew ?_))); (case side2 => exact HC215_2.out); rintro e w' ⟨rfl, ⟨nd, rfl⟩⟩; (try first | exact ⟨rfl, _, World.drewN_drewN _ _ _⟩ | exact ⟨rfl, _, Eq.trans (World.drewN_drewN _ _ _) (congrArg (World.drewN _) (Nat.add_assoc _ _ _))⟩))); try go_wp2_with (first | fail))
              go_ret
              exact ⟨ew_, bs2_ HB GE213 GE216⟩
             rw [if_pos c61] at H
             have c61b0 : (t223 == x8_6) = true := beq_iff_eq.mpr c61
             have c61b1 : (t223 != x8_6) = false := bne_eq_false_iff_eq.mpr c61
             clear c61
             have H' := mk_ H
             clear H
             have hnb62 := NB216_213.out
             have hnc62 := NB213_216.out
             have hcz63_0 := bc0_ BK216.out
             have hcz63_1 := bc1_ BK216.out
             have hcz63_2 := bc2_ BK216.out
             have hfz63_0 := blk_frozen BK216.out 0
             have hfz63_1 := blk_frozen BK216.out 1
             have hfz63_2 := blk_frozen BK216.out 2
             have hcz64_0 := bc0_ BK213.out
             have hcz64_1 := bc1_ BK213.out
             have hfz64_0 := blk_frozen BK213.out 0
             have hfz64_1 := blk_frozen BK213.out 1
             have p220 : 0 ≤ (x8_6 : Int) := od_
             have q220 : x8_6 < (((rd_T46 l0_1 x4_2).f2).length : Int) := od_
             obtain ⟨ad220, e220, hx220_0⟩ := Kd.at_int HR215_2.out x8_6 p220 q220
             cases e220
             replace hx220_0 := cb_ HB hx220_0
             replace p220 := eq_true p220
             replace q220 := eq_true q220
             go_wp2_with (first | fail)
             repeat (go_quiet (first | (go_at_call 45; (with_reducible refine (cohousingref23_Has.calls k6 _ _ l0_0 (rd ((rd_T46 l0_1 x4_2).f2) x8_6) true _ ?side1 ?side2 A58.out).mono ?_); (case side1 => exact cc_ ((Kd.C_below HR0_0.out HB.out))); (case side2 => exact HC0_0.out); rintro e w' ⟨rfl, ⟨nd, rfl⟩⟩; (try first | exact ⟨rfl, _, World.drewN_drewN _ _ _⟩ | exact ⟨rfl, _, Eq.trans (World.drewN_drewN _ _ _) (congrArg (World.drewN _) (Nat.add_assoc _ _ _))⟩); have p222 : 0 ≤ (x8_6 : Int) := od_; have q222 : x8_6 < (((rd_T46 l0_1 x4_2).f2).length : Int) := od_; obtain ⟨ad222, e222, hx222_0⟩ := Kd.at_int HR215_2.out x8_6 p222 q222; obtain rfl : ad220 = ad222 := (by injection e222); replace hx222_0 := cb_ HB hx222_0; replace p222 := eq_true p222; replace q222 := eq_true q222) | (go_at_call 24; (with_reducible refine (cohousingref23_In.calls k6 _ _ ((rd_T46 l0_1 x4_2).f2) (rd ((rd_T46 l0_1 x4_2).f2) x8_6) t223 _ ?side1 ?side2 A60.out).mono ?_); (case side1 => repeat (first | exact (Kd.C_below HR215_2.out (bs2_ HB GE213 GE216)) | (with_reducible refine Kd.C_alloc ?_ _) | (with_reducible refine Kd.C_drewN ?_ _) | (with_reducible refine Kd.C_drew ?_))); (case side2 => exact HC215_2.out); rintro e w' ⟨rfl, ⟨nd, rfl⟩⟩; (try first | exact ⟨rfl, _, World.drewN_drewN _ _ _⟩ | exact ⟨rfl, _, Eq.trans (World.drewN_drewN _ _ _) (congrArg (World.drewN _) (Nat.add_assoc _ _ _))⟩))); try go_wp2_with (first | fail))
             go_roundg k6
             case measure => have := HJ2.out; have := HK2.out; have := HJ10.out; have := HJ32.out; have := HK5.out; have := HK6.out; omega
             case rel => exact ⟨(wrap64 (x8_6 + 1)), sd_, H', ⟨by have := HJ2.out; have := HK2.out; have := HJ10.out; have := HJ32.out; have := HK5.out; have := HK6.out; omega⟩, ⟨kk_ BK213⟩, ⟨kk_ BK216⟩, ⟨bs2_ HB GE213 GE216⟩⟩
end Go.Proofs.Ytocbiggglnpeoaa.M
end
section
namespace Go.Proofs.Ytocbiggglnpeoaa.M
open Go.RowKit Go.Proofs.YtocbiggglnpeoaaW.PrintWords Go.Proofs.YtocbiggglnpeoaaW.PrintLast Go.Proofs.YtocbiggglnpeoaaW.PrintMore
attribute [local go_sem] max2_int min2_int max_two min_two max_three min_three max_four min_four
set_option linter.unusedVariables false
set_option linter.unusedSimpArgs false
def cohousingref26_Party.l0 : Nat → Int → Int → List (S84) → List (S46) → Option (Int)
 | 0, _, _, _, _ => none
 | k + 1, x1, x5, x225000, x225001 => if x5 < (x225001.length : Int) then (if 0 ≤ x5 then (if ((rd_T46 x225001 x5).f0) = x1 then (some x5) else (cohousingref26_Party.l0 k x1 (wrap64 (x5 + 1)) x225000 x225001)) else (none)) else (some (-1))
def cohousingref26_Party.f (k : Nat) (l0_0 : List (S84)) (l0_1 : List (S46)) (a1 : Int) : Option (Int) := cohousingref26_Party.l0 k a1 0 l0_0 l0_1
set_option maxHeartbeats 8000000 in
set_option maxRecDepth 100000 in
theorem cohousingref26_Party.calls (k : Nat) (A0_0 : Option Addr) (c0_0 : Nat) (l0_0 : List (S84)) (A0_1 : Option Addr) (c0_1 : Nat) (l0_1 : List (S46)) (a1 : Int) (r : Int) (w : World) (hr0_0 : Kd.C k84 w A0_0 l0_0.length l0_0) (hc0_0 : l0_0.length ≤ c0_0) (hr0_1 : Kd.C k46 w A0_1 l0_1.length l0_1) (hc0_1 : l0_1.length ≤ c0_1) (h : cohousingref26_Party.f k l0_0 l0_1 a1 = some r) :
  Calls Try.prog 27 #[.agg #[.slice A0_0 l0_0.length c0_0, .slice A0_1 l0_1.length c0_1], .int .i64 a1] w fun e w' => e = .returned (.int .i64 r) ∧ Below w.heap.size w w' := by
 have hu25 := Try.underlying25
 have HR0_0 := mk_ hr0_0
 have HC0_0 := mk_ hc0_0
 clear hr0_0 hc0_0
 have HR0_1 := mk_ hr0_1
 have HC0_1 := mk_ hc0_1
 clear hr0_1 hc0_1
 have HB := mk_ (Below.refl w.heap.size w)
 have H : (cohousingref26_Party.l0 k a1 0 l0_0 l0_1) = some r := h
 clear h
 have H' := mk_ H
 clear H
 go_enter Try.func27, Try.ntmps27
 go_wp2_with (first | ((with_reducible refine gate_dst (N := 2) rfl ?_); refine box_event ?hg (N := 2) ?hd (cs := #[.slice A0_0 l0_0.length c0_0, .slice A0_1 l0_1.length c0_1]) (t := 25) ?hr ?_; (case hd => rfl); (case hg => rfl); (case hr => first | (go_simp; done) | (go_simp; rfl)); intro gb224 hg w3 hbox hb; have n0_ := mk_ (below_step (bb_ HB) hb); have n1_ := mk_ (hbox); have n2_ := mk_ (bz_ hg (bb_ HB)); have n3_ := mk_ (bz_ hg (bb_ HB)); clear HB; revert n0_ n1_ n2_ n3_; intro HB BK224 GW224 GE224; clear hb hbox hg))
 go_loopg [5] k (fun kq v5 w' => ∃ (x5_1 : Int), v5 = .int .i64 x5_1 ∧ Aside0 (cohousingref26_Party.l0 kq a1 x5_1 l0_0 l0_1 = some r) ∧ Aside0 (kq ≤ k) ∧ Aside0 (w'.heap[gb224]? = some (.cells #[(.slice A0_0 l0_0.length c0_0), (.slice A0_1 l0_1.length c0_1)] 25 (0, 0))) ∧ Aside0 (Below w.heap.size w w'))
 case atStart => exact ⟨(0), sd_, H', ⟨Nat.le_refl _⟩, ⟨kk_ BK224⟩, ⟨bs1_ HB GE224⟩⟩
 case round =>
  clear H'
  try clear c2; try clear p2
  obtain ⟨x5_1, rfl, HA, HK1, BK224, HB⟩ := hrel
  cases gk with
  | zero => exact absurd HA.out (by simp [cohousingref26_Party.l0])
  | succ k1 =>
   have H := HA.out
   clear HA
   simp only [cohousingref26_Party.l0] at H
   by_cases c4 : x5_1 < (l0_1.length : Int)
   rotate_left
   ·rw [if_neg c4] at H
    have c4b0 : decide (x5_1 < (l0_1.length : Int)) = false := decide_eq_false c4
    clear c4
    obtain rfl := Option.some.inj H
    have hcz9_0 := bc0_ BK224.out
    have hcz9_1 := bc1_ BK224.out
    have hfz9_0 := blk_frozen BK224.out 0
    have hfz9_1 := blk_frozen BK224.out 1
    go_wp2
    go_ret
    exact ⟨ew_, bs1_ HB GE224⟩
   rw [if_pos c4] at H
   have c4b0 : decide (x5_1 < (l0_1.length : Int)) = true := decide_eq_true c4
   clear c4
   by_cases c5 : 0 ≤ x5_1
   rotate_left
   ·rw [if_neg c5] at H
    exact absurd H (by simp)
   rw [if_pos c5] at H
   have c5b0 : decide (0 ≤ x5_1) = true := decide_eq_true c5
   clear c5
   by_cases c6 : ((rd_T46 l0_1 x5_1).f0) = a1
   ·rw [if_pos c6] at H
    have c6b0 : (((rd_T46 l0_1 x5_1).f0) == a1) = true := beq_iff_eq.mpr c6
    have c6b1 : (((rd_T46 l0_1 x5_1).f0) != a1) = false := bne_eq_false_iff_eq.mpr c6
    clear c6
    obtain rfl := Option.some.inj H
    have hcz7_0 := bc0_ BK224.out
    have hcz7_1 := bc1_ BK224.out
    have hfz7_0 := blk_frozen BK224.out 0
    have hfz7_1 := blk_frozen BK224.out 1
    have p225 : 0 ≤ (x5_1 : Int) := od_
    have q225 : x5_1 < (l0_1.length : Int) := od_
    obtain ⟨ad225, A225_2, c225_2, e225, hx225_0, hx225_1, hx225_2, hl225_2, hi225_2⟩ := at_T46 HR0_1.out x5_1 p225 q225
    cases e225
    replace hx225_0 := cb_ HB hx225_0
    replace hx225_1 := cb_ HB hx225_1
    replace hx225_2 := cb_ HB hx225_2
    have HR225_2 := mk_ hi225_2
    have HC225_2 := mk_ hl225_2
    clear hi225_2 hl225_2
    replace p225 := eq_true p225
    replace q225 := eq_true q225
    go_wp2
    go_ret
    exact ⟨ew_, bs1_ HB GE224⟩
   rw [if_neg c6] at H
   have c6b0 : (((rd_T46 l0_1 x5_1).f0) == a1) = false := beq_eq_false_iff_ne.mpr c6
   have c6b1 : (((rd_T46 l0_1 x5_1).f0) != a1) = true := bne_iff_ne.mpr c6
   have H' := mk_ H
   clear H
   have hcz8_0 := bc0_ BK224.out
   have hcz8_1 := bc1_ BK224.out
   have hfz8_0 := blk_frozen BK224.out 0
   have hfz8_1 := blk_frozen BK224.out 1
   have p225 : 0 ≤ (x5_1 : Int) := od_
   have q225 : x5_1 < (l0_1.length : Int) := od_
   obtain ⟨ad225, A225_2, c225_2, e225, hx225_0, hx225_1, hx225_2, hl225_2, hi225_2⟩ := at_T46 HR0_1.out x5_1 p225 q225
   cases e225
   replace hx225_0 := cb_ HB hx225_0
   replace hx225_1 := cb_ HB hx225_1
   replace hx225_2 := cb_ HB hx225_2
   have HR225_2 := mk_ hi225_2
   have HC225_2 := mk_ hl225_2
   clear hi225_2 hl225_2
   replace p225 := eq_true p225
   replace q225 := eq_true q225
   go_wp2
   go_roundg k1
   case measure => have := HK1.out; omega
   case rel => exact ⟨(wrap64 (x5_1 + 1)), sd_, H', ⟨by have := HK1.out; omega⟩, ⟨kk_ BK224⟩, ⟨bs1_ HB GE224⟩⟩
end Go.Proofs.Ytocbiggglnpeoaa.M
end
section
namespace Go.Proofs.Ytocbiggglnpeoaa.M
open Go.RowKit Go.Proofs.YtocbiggglnpeoaaW.PrintWords Go.Proofs.YtocbiggglnpeoaaW.PrintLast Go.Proofs.YtocbiggglnpeoaaW.PrintMore
attribute [local go_sem] max2_int min2_int max_two min_two max_three min_three max_four min_four
set_option linter.unusedVariables false
set_option linter.unusedSimpArgs false
def cohousingref26_move.f (k : Nat) (l0_0 : List (S84)) (l0_1 : List (S46)) (a1_0 : Int) (a1_1 : Int) (a1_2 : Int) : Option (Bool) := (cohousingref26_Party.f k l0_0 l0_1 a1_0).bind fun t228 => ((cohousingref23_Has.f k l0_0 a1_2).bind fun t229 => (if t228 ≥ 0 then (if t229 = true then (if 0 ≤ t228 then (if t228 < (l0_1.length : Int) then (some (((rd_T46 l0_1 t228).f1) == a1_1)) else (none)) else (none)) else (some false)) else (some false)))
set_option maxHeartbeats 8000000 in
set_option maxRecDepth 100000 in
theorem cohousingref26_move.calls (k : Nat) (A0_0 : Option Addr) (c0_0 : Nat) (l0_0 : List (S84)) (A0_1 : Option Addr) (c0_1 : Nat) (l0_1 : List (S46)) (a1_0 : Int) (a1_1 : Int) (a1_2 : Int) (r : Bool) (w : World) (hr0_0 : Kd.C k84 w A0_0 l0_0.length l0_0) (hc0_0 : l0_0.length ≤ c0_0) (hr0_1 : Kd.C k46 w A0_1 l0_1.length l0_1) (hc0_1 : l0_1.length ≤ c0_1) (h : cohousingref26_move.f k l0_0 l0_1 a1_0 a1_1 a1_2 = some r) :
  Calls Try.prog 41 #[.agg #[.slice A0_0 l0_0.length c0_0, .slice A0_1 l0_1.length c0_1], .agg #[.int .i64 a1_0, .int .i64 a1_1, .int .i64 a1_2]] w fun e w' => e = .returned (.bool r) ∧ Below w.heap.size w w' := by
 have hu25 := Try.underlying25
 have hu51 := Try.underlying51
 have HR0_0 := mk_ hr0_0
 have HC0_0 := mk_ hc0_0
 clear hr0_0 hc0_0
 have HR0_1 := mk_ hr0_1
 have HC0_1 := mk_ hc0_1
 clear hr0_1 hc0_1
 have HB := mk_ (Below.refl w.heap.size w)
 have H : ((cohousingref26_Party.f k l0_0 l0_1 a1_0).bind fun t228 => ((cohousingref23_Has.f k l0_0 a1_2).bind fun t229 => (if t228 ≥ 0 then (if t229 = true then (if 0 ≤ t228 then (if t228 < (l0_1.length : Int) then (some (((rd_T46 l0_1 t228).f1) == a1_1)) else (none)) else (none)) else (some false)) else (some false)))) = some r := h
 clear h
 replace H := Option.bind_eq_some_iff.mp H
 obtain ⟨t228, A30, H⟩ := H
 replace H : ((cohousingref23_Has.f k l0_0 a1_2).bind fun t229 => (if t228 ≥ 0 then (if t229 = true then (if 0 ≤ t228 then (if t228 < (l0_1.length : Int) then (some (((rd_T46 l0_1 t228).f1) == a1_1)) else (none)) else (none)) else (some false)) else (some false))) = some r := H
 have A3 := mk_ A30
 clear A30
 replace H := Option.bind_eq_some_iff.mp H
 obtain ⟨t229, A40, H⟩ := H
 replace H : (if t228 ≥ 0 then (if t229 = true then (if 0 ≤ t228 then (if t228 < (l0_1.length : Int) then (some (((rd_T46 l0_1 t228).f1) == a1_1)) else (none)) else (none)) else (some false)) else (some false)) = some r := H
 have A4 := mk_ A40
 clear A40
 by_cases c5 : t228 ≥ 0
 rotate_left
 ·rw [if_neg c5] at H
  have c5b0 : decide (0 ≤ t228) = false := decide_eq_false c5
  clear c5
  obtain rfl := Option.some.inj H
  go_enter Try.func41, Try.ntmps41
  go_wp2_with (first | ((with_reducible refine gate_dst (N := 2) rfl ?_); refine box_event ?hg (N := 2) ?hd (cs := #[.slice A0_0 l0_0.length c0_0, .slice A0_1 l0_1.length c0_1]) (t := 25) ?hr ?_; (case hd => rfl); (case hg => rfl); (case hr => first | (go_simp; done) | (go_simp; rfl)); intro gb226 hg w25 hbox hb; have n0_ := mk_ (below_step (bb_ HB) hb); have n1_ := mk_ (hbox); have n2_ := mk_ (bz_ hg (bb_ HB)); have n3_ := mk_ (bz_ hg (bb_ HB)); clear HB; revert n0_ n1_ n2_ n3_; intro HB BK226 GW226 GE226; clear hb hbox hg) | ((with_reducible refine gate_dst (N := 3) rfl ?_); refine box_event ?hg (N := 3) ?hd (cs := #[.int .i64 a1_0, .int .i64 a1_1, .int .i64 a1_2]) (t := 51) ?hr ?_; (case hd => rfl); (case hg => rfl); (case hr => first | (go_simp; done) | (go_simp; rfl)); intro gb227 hg w26 hbox hb; have n0_ := mk_ (blk_below (kk_ BK226) hb); have n1_ := mk_ (below_step (bs_ HB GE226.out) hb); have n2_ := mk_ (hbox); have n3_ := mk_ (bz_ hg (bs_ HB GE226.out)); have n4_ := mk_ (bz_ hg (bs_ HB GE226.out)); have n5_ := mk_ (bl_ hg (kk_ BK226)); have n6_ := mk_ (bg_ hg (kk_ BK226)); clear BK226 HB; revert n0_ n1_ n2_ n3_ n4_ n5_ n6_; intro BK226 HB BK227 GW227 GE227 NB226_227 NB227_226; clear hb hbox hg; have hnb27 := NB226_227.out; have hnc27 := NB227_226.out; have hcz28_0 := bc0_ BK226.out; have hcz28_1 := bc1_ BK226.out; have hfz28_0 := blk_frozen BK226.out 0; have hfz28_1 := blk_frozen BK226.out 1; have hcz29_0 := bc0_ BK227.out; have hcz29_1 := bc1_ BK227.out; have hcz29_2 := bc2_ BK227.out; have hfz29_0 := blk_frozen BK227.out 0; have hfz29_1 := blk_frozen BK227.out 1; have hfz29_2 := blk_frozen BK227.out 2) | (go_at_call 27; (with_reducible refine (cohousingref26_Party.calls k _ _ l0_0 _ _ l0_1 a1_0 t228 _ ?side1 ?side2 ?side3 ?side4 A3.out).mono ?_); (case side1 => exact cc_ ((Kd.C_below HR0_0.out HB.out))); (case side2 => exact HC0_0.out); (case side3 => exact cc_ ((Kd.C_below HR0_1.out HB.out))); (case side4 => exact HC0_1.out); rintro e w30 ⟨rfl, hb⟩; have n0_ := mk_ (blk_below (kk_ BK226) hb); have n1_ := mk_ (blk_below (kk_ BK227) hb); have n2_ := mk_ (below_step (bs2_ HB GE226 GE227) hb); clear BK226 BK227 HB; revert n0_ n1_ n2_; intro BK226 BK227 HB; (try clear hb); (try clear hb2); (try clear hk); (try clear hi); have hcz31_0 := bc0_ BK226.out; have hcz31_1 := bc1_ BK226.out; have hfz31_0 := blk_frozen BK226.out 0; have hfz31_1 := blk_frozen BK226.out 1; have hcz32_0 := bc0_ BK227.out; have hcz32_1 := bc1_ BK227.out; have hcz32_2 := bc2_ BK227.out; have hfz32_0 := blk_frozen BK227.out 0; have hfz32_1 := blk_frozen BK227.out 1; have hfz32_2 := blk_frozen BK227.out 2) | (go_at_call 45; (with_reducible refine (cohousingref23_Has.calls k _ _ l0_0 a1_2 t229 _ ?side1 ?side2 A4.out).mono ?_); (case side1 => exact cc_ ((Kd.C_below HR0_0.out HB.out))); (case side2 => exact HC0_0.out); rintro e w' ⟨rfl, ⟨nd, rfl⟩⟩; (try first | exact ⟨rfl, _, World.drewN_drewN _ _ _⟩ | exact ⟨rfl, _, Eq.trans (World.drewN_drewN _ _ _) (congrArg (World.drewN _) (Nat.add_assoc _ _ _))⟩)))
  repeat (go_quiet (first | fail); try go_wp2_with (first | fail))
  go_ret
  exact ⟨ew_, bs2_ HB GE226 GE227⟩
 rw [if_pos c5] at H
 have c5b0 : decide (0 ≤ t228) = true := decide_eq_true c5
 clear c5
 by_cases c6 : t229 = true
 rotate_left
 ·replace c6 := Bool.eq_false_iff.mpr c6
  subst c6
  have H1 : (some false) = some r := by rw [if_neg (show ¬ (false = true) by decide)] at H; exact H
  clear H
  have H := H1
  clear H1
  obtain rfl := Option.some.inj H
  go_enter Try.func41, Try.ntmps41
  go_wp2_with (first | ((with_reducible refine gate_dst (N := 2) rfl ?_); refine box_event ?hg (N := 2) ?hd (cs := #[.slice A0_0 l0_0.length c0_0, .slice A0_1 l0_1.length c0_1]) (t := 25) ?hr ?_; (case hd => rfl); (case hg => rfl); (case hr => first | (go_simp; done) | (go_simp; rfl)); intro gb226 hg w17 hbox hb; have n0_ := mk_ (below_step (bb_ HB) hb); have n1_ := mk_ (hbox); have n2_ := mk_ (bz_ hg (bb_ HB)); have n3_ := mk_ (bz_ hg (bb_ HB)); clear HB; revert n0_ n1_ n2_ n3_; intro HB BK226 GW226 GE226; clear hb hbox hg) | ((with_reducible refine gate_dst (N := 3) rfl ?_); refine box_event ?hg (N := 3) ?hd (cs := #[.int .i64 a1_0, .int .i64 a1_1, .int .i64 a1_2]) (t := 51) ?hr ?_; (case hd => rfl); (case hg => rfl); (case hr => first | (go_simp; done) | (go_simp; rfl)); intro gb227 hg w18 hbox hb; have n0_ := mk_ (blk_below (kk_ BK226) hb); have n1_ := mk_ (below_step (bs_ HB GE226.out) hb); have n2_ := mk_ (hbox); have n3_ := mk_ (bz_ hg (bs_ HB GE226.out)); have n4_ := mk_ (bz_ hg (bs_ HB GE226.out)); have n5_ := mk_ (bl_ hg (kk_ BK226)); have n6_ := mk_ (bg_ hg (kk_ BK226)); clear BK226 HB; revert n0_ n1_ n2_ n3_ n4_ n5_ n6_; intro BK226 HB BK227 GW227 GE227 NB226_227 NB227_226; clear hb hbox hg; have hnb19 := NB226_227.out; have hnc19 := NB227_226.out; have hcz20_0 := bc0_ BK226.out; have hcz20_1 := bc1_ BK226.out; have hfz20_0 := blk_frozen BK226.out 0; have hfz20_1 := blk_frozen BK226.out 1; have hcz21_0 := bc0_ BK227.out; have hcz21_1 := bc1_ BK227.out; have hcz21_2 := bc2_ BK227.out; have hfz21_0 := blk_frozen BK227.out 0; have hfz21_1 := blk_frozen BK227.out 1; have hfz21_2 := blk_frozen BK227.out 2) | (go_at_call 27; (with_reducible refine (cohousingref26_Party.calls k _ _ l0_0 _ _ l0_1 a1_0 t228 _ ?side1 ?side2 ?side3 ?side4 A3.out).mono ?_); (case side1 => exact cc_ ((Kd.C_below HR0_0.out HB.out))); (case side2 => exact HC0_0.out); (case side3 => exact cc_ ((Kd.C_below HR0_1.out HB.out))); (case side4 => exact HC0_1.out); rintro e w22 ⟨rfl, hb⟩; have n0_ := mk_ (blk_below (kk_ BK226) hb); have n1_ := mk_ (blk_below (kk_ BK227) hb); have n2_ := mk_ (below_step (bs2_ HB GE226 GE227) hb); clear BK226 BK227 HB; revert n0_ n1_ n2_; intro BK226 BK227 HB; (try clear hb); (try clear hb2); (try clear hk); (try clear hi); have hcz23_0 := bc0_ BK226.out; have hcz23_1 := bc1_ BK226.out; have hfz23_0 := blk_frozen BK226.out 0; have hfz23_1 := blk_frozen BK226.out 1; have hcz24_0 := bc0_ BK227.out; have hcz24_1 := bc1_ BK227.out; have hcz24_2 := bc2_ BK227.out; have hfz24_0 := blk_frozen BK227.out 0; have hfz24_1 := blk_frozen BK227.out 1; have hfz24_2 := blk_frozen BK227.out 2) | (go_at_call 45; (with_reducible refine (cohousingref23_Has.calls k _ _ l0_0 a1_2 false _ ?side1 ?side2 A4.out).mono ?_); (case side1 => exact cc_ ((Kd.C_below HR0_0.out HB.out))); (case side2 => exact HC0_0.out); rintro e w' ⟨rfl, ⟨nd, rfl⟩⟩; (try first | exact ⟨rfl, _, World.drewN_drewN _ _ _⟩ | exact ⟨rfl, _, Eq.trans (World.drewN_drewN _ _ _) (congrArg (World.drewN _) (Nat.add_assoc _ _ _))⟩)))
  repeat (go_quiet (first | fail); try go_wp2_with (first | fail))
  go_ret
  exact ⟨ew_, bs2_ HB GE226 GE227⟩
 subst c6
 have H1 : (if 0 ≤ t228 then (if t228 < (l0_1.length : Int) then (some (((rd_T46 l0_1 t228).f1) == a1_1)) else (none)) else (none)) = some r := by rw [if_pos rfl] at H; exact H
 clear H
 have H := H1
 clear H1
 by_cases c7 : 0 ≤ t228
 rotate_left
 ·rw [if_neg c7] at H
  exact absurd H (by simp)
 rw [if_pos c7] at H
 have c7b0 : decide (0 ≤ t228) = true := decide_eq_true c7
 clear c7
 by_cases c8 : t228 < (l0_1.length : Int)
 rotate_left
 ·rw [if_neg c8] at H
  exact absurd H (by simp)
 rw [if_pos c8] at H
 have c8b0 : decide (t228 < (l0_1.length : Int)) = true := decide_eq_true c8
 clear c8
 obtain rfl := Option.some.inj H
 go_enter Try.func41, Try.ntmps41
 go_wp2_with (first | ((with_reducible refine gate_dst (N := 2) rfl ?_); refine box_event ?hg (N := 2) ?hd (cs := #[.slice A0_0 l0_0.length c0_0, .slice A0_1 l0_1.length c0_1]) (t := 25) ?hr ?_; (case hd => rfl); (case hg => rfl); (case hr => first | (go_simp; done) | (go_simp; rfl)); intro gb226 hg w9 hbox hb; have n0_ := mk_ (below_step (bb_ HB) hb); have n1_ := mk_ (hbox); have n2_ := mk_ (bz_ hg (bb_ HB)); have n3_ := mk_ (bz_ hg (bb_ HB)); clear HB; revert n0_ n1_ n2_ n3_; intro HB BK226 GW226 GE226; clear hb hbox hg) | ((with_reducible refine gate_dst (N := 3) rfl ?_); refine box_event ?hg (N := 3) ?hd (cs := #[.int .i64 a1_0, .int .i64 a1_1, .int .i64 a1_2]) (t := 51) ?hr ?_; (case hd => rfl); (case hg => rfl); (case hr => first | (go_simp; done) | (go_simp; rfl)); intro gb227 hg w10 hbox hb; have n0_ := mk_ (blk_below (kk_ BK226) hb); have n1_ := mk_ (below_step (bs_ HB GE226.out) hb); have n2_ := mk_ (hbox); have n3_ := mk_ (bz_ hg (bs_ HB GE226.out)); have n4_ := mk_ (bz_ hg (bs_ HB GE226.out)); have n5_ := mk_ (bl_ hg (kk_ BK226)); have n6_ := mk_ (bg_ hg (kk_ BK226)); clear BK226 HB; revert n0_ n1_ n2_ n3_ n4_ n5_ n6_; intro BK226 HB BK227 GW227 GE227 NB226_227 NB227_226; clear hb hbox hg; have hnb11 := NB226_227.out; have hnc11 := NB227_226.out; have hcz12_0 := bc0_ BK226.out; have hcz12_1 := bc1_ BK226.out; have hfz12_0 := blk_frozen BK226.out 0; have hfz12_1 := blk_frozen BK226.out 1; have hcz13_0 := bc0_ BK227.out; have hcz13_1 := bc1_ BK227.out; have hcz13_2 := bc2_ BK227.out; have hfz13_0 := blk_frozen BK227.out 0; have hfz13_1 := blk_frozen BK227.out 1; have hfz13_2 := blk_frozen BK227.out 2) | (go_at_call 27; (with_reducible refine (cohousingref26_Party.calls k _ _ l0_0 _ _ l0_1 a1_0 t228 _ ?side1 ?side2 ?side3 ?side4 A3.out).mono ?_); (case side1 => exact cc_ ((Kd.C_below HR0_0.out HB.out))); (case side2 => exact HC0_0.out); (case side3 => exact cc_ ((Kd.C_below HR0_1.out HB.out))); (case side4 => exact HC0_1.out); rintro e w14 ⟨rfl, hb⟩; have n0_ := mk_ (blk_below (kk_ BK226) hb); have n1_ := mk_ (blk_below (kk_ BK227) hb); have n2_ := mk_ (below_step (bs2_ HB GE226 GE227) hb); clear BK226 BK227 HB; revert n0_ n1_ n2_; intro BK226 BK227 HB; (try clear hb); (try clear hb2); (try clear hk); (try clear hi); have hcz15_0 := bc0_ BK226.out; have hcz15_1 := bc1_ BK226.out; have hfz15_0 := blk_frozen BK226.out 0; have hfz15_1 := blk_frozen BK226.out 1; have hcz16_0 := bc0_ BK227.out; have hcz16_1 := bc1_ BK227.out; have hcz16_2 := bc2_ BK227.out; have hfz16_0 := blk_frozen BK227.out 0; have hfz16_1 := blk_frozen BK227.out 1; have hfz16_2 := blk_frozen BK227.out 2) | (go_at_call 45; (with_reducible refine (cohousingref23_Has.calls k _ _ l0_0 a1_2 true _ ?side1 ?side2 A4.out).mono ?_); (case side1 => exact cc_ ((Kd.C_below HR0_0.out HB.out))); (case side2 => exact HC0_0.out); rintro e w' ⟨rfl, ⟨nd, rfl⟩⟩; (try first | exact ⟨rfl, _, World.drewN_drewN _ _ _⟩ | exact ⟨rfl, _, Eq.trans (World.drewN_drewN _ _ _) (congrArg (World.drewN _) (Nat.add_assoc _ _ _))⟩); have p230 : 0 ≤ (t228 : Int) := od_; have q230 : t228 < (l0_1.length : Int) := od_; obtain ⟨ad230, A230_2, c230_2, e230, hx230_0, hx230_1, hx230_2, hl230_2, hi230_2⟩ := at_T46 HR0_1.out t228 p230 q230; cases e230; replace hx230_0 := cb_ HB hx230_0; replace hx230_1 := cb_ HB hx230_1; replace hx230_2 := cb_ HB hx230_2; have HR230_2 := mk_ hi230_2; have HC230_2 := mk_ hl230_2; clear hi230_2 hl230_2; replace p230 := eq_true p230; replace q230 := eq_true q230))
 repeat (go_quiet (first | fail); try go_wp2_with (first | fail))
 go_ret
 exact ⟨ew_, bs2_ HB GE226 GE227⟩
end Go.Proofs.Ytocbiggglnpeoaa.M
end
section
namespace Go.Proofs.Ytocbiggglnpeoaa.M
open Go.RowKit Go.Proofs.YtocbiggglnpeoaaW.PrintWords Go.Proofs.YtocbiggglnpeoaaW.PrintLast Go.Proofs.YtocbiggglnpeoaaW.PrintMore
attribute [local go_sem] max2_int min2_int max_two min_two max_three min_three max_four min_four
set_option linter.unusedVariables false
set_option linter.unusedSimpArgs false
def cohousingref26_Free.l0 : Nat → Int → Int → List (S84) → List (S46) → Option (Bool)
 | 0, _, _, _, _ => none
 | k + 1, x1, x5, x232000, x232001 => if x5 < (x232001.length : Int) then (if 0 ≤ x5 then (if ((rd_T46 x232001 x5).f1) = x1 then (some false) else (cohousingref26_Free.l0 k x1 (wrap64 (x5 + 1)) x232000 x232001)) else (none)) else (some true)
def cohousingref26_Free.f (k : Nat) (l0_0 : List (S84)) (l0_1 : List (S46)) (a1 : Int) : Option (Bool) := cohousingref26_Free.l0 k a1 0 l0_0 l0_1
set_option maxHeartbeats 8000000 in
set_option maxRecDepth 100000 in
theorem cohousingref26_Free.calls (k : Nat) (A0_0 : Option Addr) (c0_0 : Nat) (l0_0 : List (S84)) (A0_1 : Option Addr) (c0_1 : Nat) (l0_1 : List (S46)) (a1 : Int) (r : Bool) (w : World) (hr0_0 : Kd.C k84 w A0_0 l0_0.length l0_0) (hc0_0 : l0_0.length ≤ c0_0) (hr0_1 : Kd.C k46 w A0_1 l0_1.length l0_1) (hc0_1 : l0_1.length ≤ c0_1) (h : cohousingref26_Free.f k l0_0 l0_1 a1 = some r) :
  Calls Try.prog 50 #[.agg #[.slice A0_0 l0_0.length c0_0, .slice A0_1 l0_1.length c0_1], .int .i64 a1] w fun e w' => e = .returned (.bool r) ∧ Below w.heap.size w w' := by
 have hu25 := Try.underlying25
 have HR0_0 := mk_ hr0_0
 have HC0_0 := mk_ hc0_0
 clear hr0_0 hc0_0
 have HR0_1 := mk_ hr0_1
 have HC0_1 := mk_ hc0_1
 clear hr0_1 hc0_1
 have HB := mk_ (Below.refl w.heap.size w)
 have H : (cohousingref26_Free.l0 k a1 0 l0_0 l0_1) = some r := h
 clear h
 have H' := mk_ H
 clear H
 go_enter Try.func50, Try.ntmps50
 go_wp2_with (first | ((with_reducible refine gate_dst (N := 2) rfl ?_); refine box_event ?hg (N := 2) ?hd (cs := #[.slice A0_0 l0_0.length c0_0, .slice A0_1 l0_1.length c0_1]) (t := 25) ?hr ?_; (case hd => rfl); (case hg => rfl); (case hr => first | (go_simp; done) | (go_simp; rfl)); intro gb231 hg w3 hbox hb; have n0_ := mk_ (below_step (bb_ HB) hb); have n1_ := mk_ (hbox); have n2_ := mk_ (bz_ hg (bb_ HB)); have n3_ := mk_ (bz_ hg (bb_ HB)); clear HB; revert n0_ n1_ n2_ n3_; intro HB BK231 GW231 GE231; clear hb hbox hg))
 go_loopg [5] k (fun kq v5 w' => ∃ (x5_1 : Int), v5 = .int .i64 x5_1 ∧ Aside0 (cohousingref26_Free.l0 kq a1 x5_1 l0_0 l0_1 = some r) ∧ Aside0 (kq ≤ k) ∧ Aside0 (w'.heap[gb231]? = some (.cells #[(.slice A0_0 l0_0.length c0_0), (.slice A0_1 l0_1.length c0_1)] 25 (0, 0))) ∧ Aside0 (Below w.heap.size w w'))
 case atStart => exact ⟨(0), sd_, H', ⟨Nat.le_refl _⟩, ⟨kk_ BK231⟩, ⟨bs1_ HB GE231⟩⟩
 case round =>
  clear H'
  try clear p2
  obtain ⟨x5_1, rfl, HA, HK1, BK231, HB⟩ := hrel
  cases gk with
  | zero => exact absurd HA.out (by simp [cohousingref26_Free.l0])
  | succ k1 =>
   have H := HA.out
   clear HA
   simp only [cohousingref26_Free.l0] at H
   by_cases c4 : x5_1 < (l0_1.length : Int)
   rotate_left
   ·rw [if_neg c4] at H
    have c4b0 : decide (x5_1 < (l0_1.length : Int)) = false := decide_eq_false c4
    clear c4
    obtain rfl := Option.some.inj H
    have hcz9_0 := bc0_ BK231.out
    have hcz9_1 := bc1_ BK231.out
    have hfz9_0 := blk_frozen BK231.out 0
    have hfz9_1 := blk_frozen BK231.out 1
    go_wp2
    go_ret
    exact ⟨ew_, bs1_ HB GE231⟩
   rw [if_pos c4] at H
   have c4b0 : decide (x5_1 < (l0_1.length : Int)) = true := decide_eq_true c4
   clear c4
   by_cases c5 : 0 ≤ x5_1
   rotate_left
   ·rw [if_neg c5] at H
    exact absurd H (by simp)
   rw [if_pos c5] at H
   have c5b0 : decide (0 ≤ x5_1) = true := decide_eq_true c5
   clear c5
   by_cases c6 : ((rd_T46 l0_1 x5_1).f1) = a1
   ·rw [if_pos c6] at H
    have c6b0 : (((rd_T46 l0_1 x5_1).f1) == a1) = true := beq_iff_eq.mpr c6
    have c6b1 : (((rd_T46 l0_1 x5_1).f1) != a1) = false := bne_eq_false_iff_eq.mpr c6
    clear c6
    obtain rfl := Option.some.inj H
    have hcz7_0 := bc0_ BK231.out
    have hcz7_1 := bc1_ BK231.out
    have hfz7_0 := blk_frozen BK231.out 0
    have hfz7_1 := blk_frozen BK231.out 1
    have p232 : 0 ≤ (x5_1 : Int) := od_
    have q232 : x5_1 < (l0_1.length : Int) := od_
    obtain ⟨ad232, A232_2, c232_2, e232, hx232_0, hx232_1, hx232_2, hl232_2, hi232_2⟩ := at_T46 HR0_1.out x5_1 p232 q232
    cases e232
    replace hx232_0 := cb_ HB hx232_0
    replace hx232_1 := cb_ HB hx232_1
    replace hx232_2 := cb_ HB hx232_2
    have HR232_2 := mk_ hi232_2
    have HC232_2 := mk_ hl232_2
    clear hi232_2 hl232_2
    replace p232 := eq_true p232
    replace q232 := eq_true q232
    go_wp2
    go_ret
    exact ⟨ew_, bs1_ HB GE231⟩
   rw [if_neg c6] at H
   have c6b0 : (((rd_T46 l0_1 x5_1).f1) == a1) = false := beq_eq_false_iff_ne.mpr c6
   have c6b1 : (((rd_T46 l0_1 x5_1).f1) != a1) = true := bne_iff_ne.mpr c6
   have H' := mk_ H
   clear H
   have hcz8_0 := bc0_ BK231.out
   have hcz8_1 := bc1_ BK231.out
   have hfz8_0 := blk_frozen BK231.out 0
   have hfz8_1 := blk_frozen BK231.out 1
   have p232 : 0 ≤ (x5_1 : Int) := od_
   have q232 : x5_1 < (l0_1.length : Int) := od_
   obtain ⟨ad232, A232_2, c232_2, e232, hx232_0, hx232_1, hx232_2, hl232_2, hi232_2⟩ := at_T46 HR0_1.out x5_1 p232 q232
   cases e232
   replace hx232_0 := cb_ HB hx232_0
   replace hx232_1 := cb_ HB hx232_1
   replace hx232_2 := cb_ HB hx232_2
   have HR232_2 := mk_ hi232_2
   have HC232_2 := mk_ hl232_2
   clear hi232_2 hl232_2
   replace p232 := eq_true p232
   replace q232 := eq_true q232
   go_wp2
   go_roundg k1
   case measure => have := HK1.out; omega
   case rel => exact ⟨(wrap64 (x5_1 + 1)), sd_, H', ⟨by have := HK1.out; omega⟩, ⟨kk_ BK231⟩, ⟨bs1_ HB GE231⟩⟩
end Go.Proofs.Ytocbiggglnpeoaa.M
end
