/- Part 1 of the proof of ChargesTight: what it alone needs. -/
import Derived.Test.YtbgchacafglcpaaCTe
set_option linter.unusedVariables false
set_option linter.unusedSimpArgs false
section
namespace Go.Proofs.Ytbgchacafglcpaa.P
open Go.RowKit Go.Proofs.YtbgchacafglcpaaW.PrintWords Go.Proofs.YtbgchacafglcpaaW.PrintLast Go.Proofs.YtbgchacafglcpaaW.PrintMore
attribute [local go_sem] max2_int min2_int max_two min_two max_three min_three max_four min_four
set_option linter.unusedVariables false
set_option linter.unusedSimpArgs false
set_option maxHeartbeats 8000000
set_option maxRecDepth 100000
section
mutual
def cohousinglaw29_ChargesTight.j0 : Nat → Int → List (S63) → List (S38) → Int → Bool → List (S43) → Bool → Option (Bool)
 | 0, _, _, _, _, _, _, _ => none
 | k + 1, x0, x1, x2, x4, x11, x12, x50 => if x50 = true then (some x11) else ((cohousingref29_Root.f k x1).bind fun t504 => ((cohousingref29_Leaves.f k x1).bind fun t505 => ((flow_Bounds.f x1 x2).bind fun bt508 => (if bt508.2 = 0 then (if t504 < 0 then (cohousinglaw29_ChargesTight.j1 k x0 x1 x2 x4 x11 x12 t504 t505 bt508.1 true) else (if (t505.length : Int) = (x12.length : Int) then (cohousinglaw29_ChargesTight.j1 k x0 x1 x2 x4 x11 x12 t504 t505 bt508.1 ((bt508.1.length : Int) != (x1.length : Int))) else (cohousinglaw29_ChargesTight.j1 k x0 x1 x2 x4 x11 x12 t504 t505 bt508.1 true))) else (cohousinglaw29_ChargesTight.j1 k x0 x1 x2 x4 x11 x12 t504 t505 bt508.1 true)))))
def cohousinglaw29_ChargesTight.j1 : Nat → Int → List (S63) → List (S38) → Int → Bool → List (S43) → Int → List Int → List (S38) → Bool → Option (Bool)
 | 0, _, _, _, _, _, _, _, _, _, _ => none
 | k + 1, x0, x1, x2, x4, x11, x12, x15, x16, x17, x81 => if x81 = true then (some false) else (if (x12.length : Int) = 0 then (none) else (if 0 ≤ (Int.tmod (wrap64 (x4)) (x12.length : Int)) then (if (Int.tmod (wrap64 (x4)) (x12.length : Int)) < (x16.length : Int) then (if 0 ≤ (rd x16 (Int.tmod (wrap64 (x4)) (x12.length : Int))) then (if (rd x16 (Int.tmod (wrap64 (x4)) (x12.length : Int))) < (x17.length : Int) then ((flow_State.f x1 x2 (rd x16 (Int.tmod (wrap64 (x4)) (x12.length : Int))) ((rd_T38 x17 (rd x16 (Int.tmod (wrap64 (x4)) (x12.length : Int)))).f0)).bind fun bt515 => ((flow_State.f x1 x2 (rd x16 (Int.tmod (wrap64 (x4)) (x12.length : Int))) ((rd_T38 x17 (rd x16 (Int.tmod (wrap64 (x4)) (x12.length : Int)))).f1)).bind fun bt522 => (if bt515.2 = 0 then (if bt522.2 = 0 then (if (bt515.1.length : Int) = (x1.length : Int) then (cohousinglaw29_ChargesTight.j2 k x0 x1 x2 x11 x12 x15 x16 (Int.tmod (wrap64 (x4)) (x12.length : Int)) bt515.1 bt522.1 ((bt522.1.length : Int) != (x1.length : Int))) else (cohousinglaw29_ChargesTight.j2 k x0 x1 x2 x11 x12 x15 x16 (Int.tmod (wrap64 (x4)) (x12.length : Int)) bt515.1 bt522.1 true)) else (cohousinglaw29_ChargesTight.j2 k x0 x1 x2 x11 x12 x15 x16 (Int.tmod (wrap64 (x4)) (x12.length : Int)) bt515.1 bt522.1 true)) else (cohousinglaw29_ChargesTight.j2 k x0 x1 x2 x11 x12 x15 x16 (Int.tmod (wrap64 (x4)) (x12.length : Int)) bt515.1 bt522.1 true)))) else (none)) else (none)) else (none)) else (none)))
def cohousinglaw29_ChargesTight.j2 : Nat → Int → List (S63) → List (S38) → Bool → List (S43) → Int → List Int → Int → List Int → List Int → Bool → Option (Bool)
 | 0, _, _, _, _, _, _, _, _, _, _, _ => none
 | k + 1, x0, x1, x2, x11, x12, x15, x16, x19, x20, x22, x142 => if x142 = true then (some false) else ((flow_Consistent.f x1 x2 x20).bind fun bt526 => ((flow_Consistent.f x1 x2 x22).bind fun bt528 => (if bt526.2 = 0 then (if bt528.2 = 0 then (if bt526.1 = true then (cohousinglaw29_ChargesTight.j3 k x0 x11 x12 x15 x16 x19 x20 x22 (!bt528.1)) else (cohousinglaw29_ChargesTight.j3 k x0 x11 x12 x15 x16 x19 x20 x22 true)) else (cohousinglaw29_ChargesTight.j3 k x0 x11 x12 x15 x16 x19 x20 x22 true)) else (cohousinglaw29_ChargesTight.j3 k x0 x11 x12 x15 x16 x19 x20 x22 true))))
def cohousinglaw29_ChargesTight.j3 : Nat → Int → Bool → List (S43) → Int → List Int → Int → List Int → List Int → Bool → Option (Bool)
 | 0, _, _, _, _, _, _, _, _, _ => none
 | k + 1, x0, x11, x12, x15, x16, x19, x20, x22, x170 => if x170 = true then (some false) else (if x11 = true then (if 0 ≤ x15 then (if x15 < (x20.length : Int) then (if 0 ≤ x19 then (if x19 < (x16.length : Int) then (if 0 ≤ (rd x16 x19) then (if (rd x16 x19) < (x20.length : Int) then ((cohousingref29_Right.f k x0 (rd x20 x15) (rd x20 (rd x16 x19))).bind fun t533 => (if x19 < (x12.length : Int) then (if t533 = ((rd_T43 x12 x19).f2.f0) then (if x15 < (x22.length : Int) then (if (rd x16 x19) < (x22.length : Int) then ((cohousingref29_Right.f k x0 (rd x22 x15) (rd x22 (rd x16 x19))).bind fun t538 => (some (t538 == ((rd_T43 x12 x19).f2.f1)))) else (none)) else (none)) else (some false)) else (none))) else (none)) else (none)) else (none)) else (none)) else (none)) else (none)) else (some false))
end
def cohousinglaw29_ChargesTight.f (k : Nat) (a0 : Int) (l1 : List (S63)) (l2 : List (S38)) (l3 : List Int) (a4 : Int) : Option (Bool) := (cohousinglaw29_head.f k).bind fun t497 => ((cohousinglaw29_few.f l1 l2 l3).bind fun t498 => (if t498 = true then ((charges_Network.f a0 l1 l2 l3).bind fun bt499 => (if bt499.2.2 = 0 then (cohousinglaw29_ChargesTight.j0 k a0 l1 l2 a4 t497 bt499.1 ((bt499.1.length : Int) == 0)) else (cohousinglaw29_ChargesTight.j0 k a0 l1 l2 a4 t497 bt499.1 true))) else (some t497)))
def cohousinglaw29_ChargesTight.T13 : Bool × List (List Nat × List Nat) := (true, [([], []), ([], []), ([], []), ([], []), ([2, 3], [2, 3]), ([4], [4]), ([], []), ([], []), ([], []), ([7, 8], [7, 8]), ([9], [9]), ([6, 10], [6, 10]), ([11], [11]), ([12], [12]), ([0, 1, 5, 13], [0, 1, 5, 13]), ([14], [14]), ([15], [15]), ([15], [15]), ([16, 14, 0, 1, 2, 3, 4, 5, 6, 7, 8, 9, 10, 11, 12, 13, 14, 15, 16], [16]), ([17, 18, 0, 1, 2, 3, 4, 5, 6, 7, 8, 9, 10, 11, 12, 13, 14, 15, 16, 17, 18], [17])])
def cohousinglaw29_ChargesTight.B13 : List Nat := [0, 0, 0, 0, 12, 28, 0, 0, 0, 384, 896, 1984, 4032, 8128, 16383, 32767, 65535, 65535, 131071, 524287]
theorem cohousinglaw29_ChargesTight.tab13 : rtab .any (opsOf Try.f10 13) = cohousinglaw29_ChargesTight.T13 := by kernel_rfl
theorem cohousinglaw29_ChargesTight.bits13 : waitsOk cohousinglaw29_ChargesTight.T13.2 cohousinglaw29_ChargesTight.B13 = true := by kernel_rfl
def cohousinglaw29_ChargesTight.T14 : Bool × List (List Nat × List Nat) := (true, [([], []), ([], []), ([], []), ([], []), ([2, 3], [2, 3]), ([4], [4]), ([], []), ([], []), ([], []), ([7, 8], [7, 8]), ([9], [9]), ([6, 10], [6, 10]), ([11], [11]), ([12], [12]), ([0, 1, 5, 13], [0, 1, 5, 13]), ([14], [14]), ([15], [15]), ([15], [15]), ([16, 14, 0, 1, 2, 3, 4, 5, 6, 7, 8, 9, 10, 11, 12, 13, 14, 15, 16], [16]), ([17, 18, 0, 1, 2, 3, 4, 5, 6, 7, 8, 9, 10, 11, 12, 13, 14, 15, 16, 17, 18], [17])])
def cohousinglaw29_ChargesTight.B14 : List Nat := [0, 0, 0, 0, 12, 28, 0, 0, 0, 384, 896, 1984, 4032, 8128, 16383, 32767, 65535, 65535, 131071, 524287]
theorem cohousinglaw29_ChargesTight.tab14 : rtab .any (opsOf Try.f10 14) = cohousinglaw29_ChargesTight.T14 := by kernel_rfl
theorem cohousinglaw29_ChargesTight.bits14 : waitsOk cohousinglaw29_ChargesTight.T14.2 cohousinglaw29_ChargesTight.B14 = true := by kernel_rfl
def cohousinglaw29_ChargesTight.T21 : Bool × List (List Nat × List Nat) := (true, [([], []), ([0], [0]), ([1], [1]), ([1], [1]), ([1], [1]), ([3, 4, 1], [1, 3, 4]), ([5, 1], [1, 5]), ([1], [1]), ([1], [1]), ([1], [1]), ([8, 9, 1], [1, 8, 9]), ([10, 1], [1, 10]), ([7, 11, 1], [1, 7, 11]), ([12, 1], [1, 12]), ([2, 6, 13, 1, 1], [1, 2, 6, 13]), ([1], [1]), ([1], [1]), ([15, 16, 1], [1, 15, 16]), ([17, 1], [1, 17]), ([18, 1], [1, 18]), ([19, 1], [1, 19]), ([14, 20, 1], [1, 14, 20]), ([1, 21], [1, 21]), ([22, 14], [22]), ([23], [23]), ([23], [23]), ([23], [23]), ([25, 26, 23], [23, 25, 26]), ([27, 23], [23, 27]), ([23], [23]), ([23], [23]), ([23], [23]), ([30, 31, 23], [23, 30, 31]), ([32, 23], [23, 32]), ([29, 33, 23], [23, 29, 33]), ([34, 23], [23, 34]), ([24, 28, 35, 23, 23], [23, 24, 28, 35]), ([23], [23]), ([23], [23]), ([37, 38, 23], [23, 37, 38]), ([39, 23], [23, 39]), ([40, 23], [23, 40]), ([41, 23], [23, 41]), ([36, 42, 23], [23, 36, 42]), ([23, 43], [23, 43]), ([44, 36, 0, 1, 2, 3, 4, 5, 6, 7, 8, 9, 10, 11, 12, 13, 14, 15, 16, 17, 18, 19, 20, 21, 22, 23, 24, 25, 26, 27, 28, 29, 30, 31, 32, 33, 34, 35, 36, 37, 38, 39, 40, 41, 42, 43, 44], [44])])
def cohousinglaw29_ChargesTight.B21 : List Nat := [0, 1, 3, 3, 3, 27, 59, 3, 3, 3, 771, 1795, 3971, 8067, 16383, 3, 3, 98307, 229379, 491523, 1015811, 2097151, 4194303, 8388607, 16777215, 16777215, 16777215, 117440511, 251658239, 16777215, 16777215, 16777215, 3238002687, 7532969983, 16659775487, 33839644671, 68719476735, 16777215, 16777215, 412333637631, 962089451519, 2061601079295, 4260624334847, 8796093022207, 17592186044415, 35184372088831]
theorem cohousinglaw29_ChargesTight.tab21 : rtab .any (opsOf Try.f10 21) = cohousinglaw29_ChargesTight.T21 := by kernel_rfl
theorem cohousinglaw29_ChargesTight.bits21 : waitsOk cohousinglaw29_ChargesTight.T21.2 cohousinglaw29_ChargesTight.B21 = true := by kernel_rfl
theorem cohousinglaw29_ChargesTight.calls (k : Nat) (a0 : Int) (A1 : Option Addr) (c1 : Nat) (l1 : List (S63)) (A2 : Option Addr) (c2 : Nat) (l2 : List (S38)) (A3 : Option Addr) (c3 : Nat) (l3 : List Int) (a4 : Int) (r : Bool) (w : World) (hr1 : Kd.C k63 w A1 l1.length l1) (hc1 : l1.length ≤ c1) (hr2 : Kd.C k38 w A2 l2.length l2) (hc2 : l2.length ≤ c2) (hr3 : Kd.C (Kd.int .i64) w A3 l3.length l3) (hc3 : l3.length ≤ c3) (h : cohousinglaw29_ChargesTight.f k a0 l1 l2 l3 a4 = some r) :
  Calls Try.prog 10 #[.int .i64 a0, .slice A1 l1.length c1, .slice A2 l2.length c2, .slice A3 l3.length c3, .int .u8 a4] w fun e w' => e = .returned (.bool r) ∧ Below w.heap.size w w' := by
 have HR1 := Aside0.mk hr1
 have HC1 := Aside0.mk hc1
 clear hr1 hc1
 have HR2 := Aside0.mk hr2
 have HC2 := Aside0.mk hc2
 clear hr2 hc2
 have HR3 := Aside0.mk hr3
 have HC3 := Aside0.mk hc3
 clear hr3 hc3
 have HB := Aside0.mk (Below.refl w.heap.size w)
 have H : ((cohousinglaw29_head.f k).bind fun t497 => ((cohousinglaw29_few.f l1 l2 l3).bind fun t498 => (if t498 = true then ((charges_Network.f a0 l1 l2 l3).bind fun bt499 => (if bt499.2.2 = 0 then (cohousinglaw29_ChargesTight.j0 k a0 l1 l2 a4 t497 bt499.1 ((bt499.1.length : Int) == 0)) else (cohousinglaw29_ChargesTight.j0 k a0 l1 l2 a4 t497 bt499.1 true))) else (some t497)))) = some r := h
 clear h
 replace H := Option.bind_eq_some_iff.mp H
 obtain ⟨t497, A60, H⟩ := H
 replace H : ((cohousinglaw29_few.f l1 l2 l3).bind fun t498 => (if t498 = true then ((charges_Network.f a0 l1 l2 l3).bind fun bt499 => (if bt499.2.2 = 0 then (cohousinglaw29_ChargesTight.j0 k a0 l1 l2 a4 t497 bt499.1 ((bt499.1.length : Int) == 0)) else (cohousinglaw29_ChargesTight.j0 k a0 l1 l2 a4 t497 bt499.1 true))) else (some t497))) = some r := H
 have A6 := Aside0.mk A60
 clear A60
 replace H := Option.bind_eq_some_iff.mp H
 obtain ⟨t498, A70, H⟩ := H
 replace H : (if t498 = true then ((charges_Network.f a0 l1 l2 l3).bind fun bt499 => (if bt499.2.2 = 0 then (cohousinglaw29_ChargesTight.j0 k a0 l1 l2 a4 t497 bt499.1 ((bt499.1.length : Int) == 0)) else (cohousinglaw29_ChargesTight.j0 k a0 l1 l2 a4 t497 bt499.1 true))) else (some t497)) = some r := H
 have A7 := Aside0.mk A70
 clear A70
 by_cases c8 : t498 = true
 ·subst c8
  have H1 : ((charges_Network.f a0 l1 l2 l3).bind fun bt499 => (if bt499.2.2 = 0 then (cohousinglaw29_ChargesTight.j0 k a0 l1 l2 a4 t497 bt499.1 ((bt499.1.length : Int) == 0)) else (cohousinglaw29_ChargesTight.j0 k a0 l1 l2 a4 t497 bt499.1 true))) = some r := by rw [if_pos rfl] at H; exact H
  clear H
  have H := H1
  clear H1
  replace H := Option.bind_eq_some_iff.mp H
  obtain ⟨⟨t499, t500, t501⟩, A90, H⟩ := H
  replace H : (if t501 = 0 then (cohousinglaw29_ChargesTight.j0 k a0 l1 l2 a4 t497 t499 ((t499.length : Int) == 0)) else (cohousinglaw29_ChargesTight.j0 k a0 l1 l2 a4 t497 t499 true)) = some r := H
  have A9 := Aside0.mk A90
  clear A90
  have HC10 := Aside0.mk H
  clear H
  go_enter Try.func10, Try.ntmps10
  go_upto_region 5 with (first | ((with_reducible refine gate_callee (f := 20) rfl ?_); refine gl_ (some 28) Try.func20 #[] ?_; (with_reducible refine (cohousinglaw29_head.calls k  t497 _ A6.out).mono ?_); rintro e w11 ⟨rfl, hb⟩; refine ⟨_, rfl, ?_⟩; have n0_ := Aside0.mk (below_step (bb_ HB) hb); clear HB; have HB := n0_; clear n0_; (try clear hb); (try clear hb2); (try clear hk); (try clear hi)) | ((with_reducible refine gate_callee (f := 21) rfl ?_); refine gl_ (some 32) Try.func21 #[.slice A1 l1.length c1, .slice A2 l2.length c2, .slice A3 l3.length c3] ?_; (with_reducible refine (cohousinglaw29_few.calls _ _ l1 _ _ l2 _ _ l3 true _ ?side1 ?side2 ?side3 ?side4 ?side5 ?side6 A7.out).mono ?_); (case side1 => exact cc_ ((Kd.C_below HR1.out HB.out))); (case side2 => exact HC1.out); (case side3 => exact cc_ ((Kd.C_below HR2.out HB.out))); (case side4 => exact HC2.out); (case side5 => exact cc_ ((Kd.C_below HR3.out HB.out))); (case side6 => exact HC3.out); rintro e w' ⟨rfl, ⟨nd, rfl⟩⟩; refine ⟨_, rfl, ?_⟩) | ((with_reducible refine gate_callee (f := 14) rfl ?_); refine gl_ (some 40) Try.func14 #[.int .i64 a0, .slice A1 l1.length c1, .slice A2 l2.length c2, .slice A3 l3.length c3] ?_; (with_reducible refine (charges_Network.calls a0 _ _ l1 _ _ l2 _ _ l3 t499 t500 t501 _ ?side1 ?side2 ?side3 ?side4 ?side5 ?side6 A9.out).mono ?_); (case side1 => exact cc_ ((Kd.C_below HR1.out (bb_ HB)))); (case side2 => exact HC1.out); (case side3 => exact cc_ ((Kd.C_below HR2.out (bb_ HB)))); (case side4 => exact HC2.out); (case side5 => exact cc_ ((Kd.C_below HR3.out (bb_ HB)))); (case side6 => exact HC3.out); rintro e w12 ⟨v502, rfl, ho0, hb⟩; refine ⟨_, rfl, ?_⟩; have n0_ := Aside0.mk (Kd.R_lower ho0 (below_size (bb_ HB))); have n1_ := Aside0.mk (below_step (bb_ HB) hb); clear HB; have HO503 := n0_; have HB := n1_; clear n0_ n1_; (try clear hb); (try clear hb2); (try clear hk); (try clear hi); (try clear ho0)))
  (try simp only [Act.put, sI_, s0_, sS_])
  go_cut [50] (fun v50 wc => ∃ (kq : Nat) (x50_9 : Bool), v50 = .bool x50_9 ∧ Aside0 (cohousinglaw29_ChargesTight.j0 kq a0 l1 l2 a4 t497 t499 x50_9 = some r) ∧ Aside0 (kq ≤ k) ∧ Aside0 (Kd.R k43 43 wc w.heap.size (fun _ => True) v502 t499) ∧ Aside0 (Below w.heap.size w wc))
  case first => as_aux_lemma =>
   have H := HC10.out
   clear HC10
   by_cases c13 : t501 = 0
   ·rw [if_pos c13] at H
    have c13b0 : (t501 == 0) = true := beq_iff_eq.mpr c13
    have c13b1 : (t501 != 0) = false := bne_eq_false_iff_eq.mpr c13
    clear c13
    (first | rw [c13b0] | (simp only [i64_w, i32_w]; rw [c13b0]) | skip)
    have H' := Aside0.mk H
    clear H
    obtain ⟨Ao14, co14, eo14⟩ := Kd.R_slice HO503.out
    subst eo14
    go_wp2
    go_meet
    case rel => exact ⟨_, (((t499.length : Int) == 0)), sd_, H', ⟨by first | omega | exact Nat.le_refl _⟩, ⟨by (with_reducible repeat (first | apply Kd.R_alloc | apply Kd.R_drewN | apply Kd.R_drew)); exact HO503.out⟩, ⟨by repeat (first | (with_reducible first | exact HB.out | apply below_alloc | apply pw_below_drewN | apply below_drew1) | exact HB.out)⟩⟩
   ·rw [if_neg c13] at H
    have c13b0 : (t501 == 0) = false := beq_eq_false_iff_ne.mpr c13
    have c13b1 : (t501 != 0) = true := bne_iff_ne.mpr c13
    (first | rw [c13b0] | (simp only [i64_w, i32_w]; rw [c13b0]) | skip)
    have H' := Aside0.mk H
    clear H
    go_wp2
    go_meet
    case rel => exact ⟨_, (true), sd_, H', ⟨by first | omega | exact Nat.le_refl _⟩, ⟨by (with_reducible repeat (first | apply Kd.R_alloc | apply Kd.R_drewN | apply Kd.R_drew)); exact HO503.out⟩, ⟨by repeat (first | (with_reducible first | exact HB.out | apply below_alloc | apply pw_below_drewN | apply below_drew1) | exact HB.out)⟩⟩
  case rest => as_aux_lemma =>
   clear HC10
   try clear c1
   try clear c2
   try clear p2
   try clear c3
   try clear c8
   try clear c10
   try clear c13
   try clear c13b0
   try clear c13b1
   try clear c14
   obtain ⟨kq, x50_9, rfl, HA, HJ9, HO_12, HB⟩ := hcut
   cases kq with
   | zero => exact absurd HA.out (by simp [cohousinglaw29_ChargesTight.j0])
   | succ kj9 =>
    have H := HA.out
    clear HA
    simp only [cohousinglaw29_ChargesTight.j0] at H
    by_cases c15 : x50_9 = true
    ·subst c15
     have H1 : (some t497) = some r := by rw [if_pos rfl] at H; exact H
     clear H
     have H := H1
     clear H1
     obtain rfl := Option.some.inj H
     go_wp2
     go_ret
     exact ⟨ew_, by repeat (first | (with_reducible first | exact HB.out | apply below_alloc | apply pw_below_drewN | apply below_drew1) | exact HB.out)⟩
    ·replace c15 := Bool.eq_false_iff.mpr c15
     subst c15
     have H1 : ((cohousingref29_Root.f kj9 l1).bind fun t504 => ((cohousingref29_Leaves.f kj9 l1).bind fun t505 => ((flow_Bounds.f l1 l2).bind fun bt508 => (if bt508.2 = 0 then (if t504 < 0 then (cohousinglaw29_ChargesTight.j1 kj9 a0 l1 l2 a4 t497 t499 t504 t505 bt508.1 true) else (if (t505.length : Int) = (t499.length : Int) then (cohousinglaw29_ChargesTight.j1 kj9 a0 l1 l2 a4 t497 t499 t504 t505 bt508.1 ((bt508.1.length : Int) != (l1.length : Int))) else (cohousinglaw29_ChargesTight.j1 kj9 a0 l1 l2 a4 t497 t499 t504 t505 bt508.1 true))) else (cohousinglaw29_ChargesTight.j1 kj9 a0 l1 l2 a4 t497 t499 t504 t505 bt508.1 true))))) = some r := by rw [if_neg (show ¬ (false = true) by decide)] at H; exact H
     clear H
     have H := H1
     clear H1
     replace H := Option.bind_eq_some_iff.mp H
     obtain ⟨t504, A160, H⟩ := H
     replace H : ((cohousingref29_Leaves.f kj9 l1).bind fun t505 => ((flow_Bounds.f l1 l2).bind fun bt508 => (if bt508.2 = 0 then (if t504 < 0 then (cohousinglaw29_ChargesTight.j1 kj9 a0 l1 l2 a4 t497 t499 t504 t505 bt508.1 true) else (if (t505.length : Int) = (t499.length : Int) then (cohousinglaw29_ChargesTight.j1 kj9 a0 l1 l2 a4 t497 t499 t504 t505 bt508.1 ((bt508.1.length : Int) != (l1.length : Int))) else (cohousinglaw29_ChargesTight.j1 kj9 a0 l1 l2 a4 t497 t499 t504 t505 bt508.1 true))) else (cohousinglaw29_ChargesTight.j1 kj9 a0 l1 l2 a4 t497 t499 t504 t505 bt508.1 true)))) = some r := H
     have A16 := Aside0.mk A160
     clear A160
     replace H := Option.bind_eq_some_iff.mp H
     obtain ⟨t505, A170, H⟩ := H
     replace H : ((flow_Bounds.f l1 l2).bind fun bt508 => (if bt508.2 = 0 then (if t504 < 0 then (cohousinglaw29_ChargesTight.j1 kj9 a0 l1 l2 a4 t497 t499 t504 t505 bt508.1 true) else (if (t505.length : Int) = (t499.length : Int) then (cohousinglaw29_ChargesTight.j1 kj9 a0 l1 l2 a4 t497 t499 t504 t505 bt508.1 ((bt508.1.length : Int) != (l1.length : Int))) else (cohousinglaw29_ChargesTight.j1 kj9 a0 l1 l2 a4 t497 t499 t504 t505 bt508.1 true))) else (cohousinglaw29_ChargesTight.j1 kj9 a0 l1 l2 a4 t497 t499 t504 t505 bt508.1 true))) = some r := H
     have A17 := Aside0.mk A170
     clear A170
     replace H := Option.bind_eq_some_iff.mp H
     obtain ⟨⟨t508, t509⟩, A180, H⟩ := H
     replace H : (if t509 = 0 then (if t504 < 0 then (cohousinglaw29_ChargesTight.j1 kj9 a0 l1 l2 a4 t497 t499 t504 t505 t508 true) else (if (t505.length : Int) = (t499.length : Int) then (cohousinglaw29_ChargesTight.j1 kj9 a0 l1 l2 a4 t497 t499 t504 t505 t508 ((t508.length : Int) != (l1.length : Int))) else (cohousinglaw29_ChargesTight.j1 kj9 a0 l1 l2 a4 t497 t499 t504 t505 t508 true))) else (cohousinglaw29_ChargesTight.j1 kj9 a0 l1 l2 a4 t497 t499 t504 t505 t508 true)) = some r := H
     have A18 := Aside0.mk A180
     clear A180
     have HC19 := Aside0.mk H
     clear H
     go_upto_region 10 with (first | ((with_reducible refine gate_callee (f := 18) rfl ?_); refine gl_ (some 53) Try.func18 #[.slice A1 l1.length c1] ?_; (with_reducible refine (cohousingref29_Root.calls kj9 _ _ l1 t504 _ ?side1 ?side2 A16.out).mono ?_); (case side1 => exact cc_ ((Kd.C_below HR1.out HB.out))); (case side2 => exact HC1.out); rintro e w' ⟨rfl, ⟨nd, rfl⟩⟩; refine ⟨_, rfl, ?_⟩) | ((with_reducible refine gate_callee (f := 17) rfl ?_); refine gl_ (some 55) Try.func17 #[.slice A1 l1.length c1] ?_; (with_reducible refine (cohousingref29_Leaves.calls kj9 _ _ l1 t505 _ ?side1 ?side2 A17.out).mono ?_); (case side1 => exact cc_ ((Kd.C_below HR1.out (bb_ HB)))); (case side2 => exact HC1.out); rintro e w20 ⟨v506, rfl, ho0, hb⟩; refine ⟨_, rfl, ?_⟩; have n0_ := Aside0.mk (Kd.R_below (rr_ HO_12) hb); have n1_ := Aside0.mk (Kd.R_lower ho0 (below_size (bb_ HB))); have n2_ := Aside0.mk (below_step (bb_ HB) hb); clear HO_12; clear HB; have HO_12 := n0_; have HO507 := n1_; have HB := n2_; clear n0_ n1_ n2_; (try clear hb); (try clear hb2); (try clear hk); (try clear hi); (try clear ho0)) | ((with_reducible refine gate_callee (f := 13) rfl ?_); refine gl_ (some 59) Try.func13 #[.slice A1 l1.length c1, .slice A2 l2.length c2] ?_; (with_reducible refine (flow_Bounds.calls _ _ l1 _ _ l2 t508 t509 _ ?side1 ?side2 ?side3 ?side4 A18.out).mono ?_); (case side1 => exact cc_ ((Kd.C_below HR1.out HB.out))); (case side2 => exact HC1.out); (case side3 => exact cc_ ((Kd.C_below HR2.out HB.out))); (case side4 => exact HC2.out); rintro e w21 ⟨v510, rfl, ho0, hb⟩; refine ⟨_, rfl, ?_⟩; have n0_ := Aside0.mk (Kd.R_below (rr_ HO_12) hb); have n1_ := Aside0.mk (Kd.R_below (rr_ HO507) hb); have n2_ := Aside0.mk (Kd.R_lower ho0 (below_size (bb_ HB))); have n3_ := Aside0.mk (below_step (bb_ HB) hb); clear HO_12; clear HO507; clear HB; have HO_12 := n0_; have HO507 := n1_; have HO511 := n2_; have HB := n3_; clear n0_ n1_ n2_ n3_; (try clear hb); (try clear hb2); (try clear hk); (try clear hi); (try clear ho0)))
     (try simp only [Act.put, sI_, s0_, sS_])
     go_cut [81] (fun v81 wc => ∃ (kq : Nat) (x81_18 : Bool), v81 = .bool x81_18 ∧ Aside0 (cohousinglaw29_ChargesTight.j1 kq a0 l1 l2 a4 t497 t499 t504 t505 t508 x81_18 = some r) ∧ Aside0 (kq ≤ kj9) ∧ Aside0 (Kd.R k43 43 wc w.heap.size (fun _ => True) v502 t499) ∧ Aside0 (Kd.R (Kd.int .i64) 3 wc w.heap.size (fun _ => True) v506 t505) ∧ Aside0 (Kd.R k38 38 wc w.heap.size (fun _ => True) v510 t508) ∧ Aside0 (Below w.heap.size w wc))
     case first => as_aux_lemma =>
      have H := HC19.out
      clear HC19
      by_cases c22 : t509 = 0
      ·rw [if_pos c22] at H
       have c22b0 : (t509 == 0) = true := beq_iff_eq.mpr c22
       have c22b1 : (t509 != 0) = false := bne_eq_false_iff_eq.mpr c22
       clear c22
       (first | rw [c22b0] | (simp only [i64_w, i32_w]; rw [c22b0]) | skip)
       by_cases c23 : t504 < 0
       ·rw [if_pos c23] at H
        have c23b0 : decide (t504 < 0) = true := decide_eq_true c23
        clear c23
        have H' := Aside0.mk H
        clear H
        go_wp2
        go_meet
        case rel => exact ⟨_, (true), sd_, H', ⟨by have := HJ9.out; first | omega | exact Nat.le_refl _⟩, ⟨by (with_reducible repeat (first | apply Kd.R_alloc | apply Kd.R_drewN | apply Kd.R_drew)); exact HO_12.out⟩, ⟨by (with_reducible repeat (first | apply Kd.R_alloc | apply Kd.R_drewN | apply Kd.R_drew)); exact HO507.out⟩, ⟨by (with_reducible repeat (first | apply Kd.R_alloc | apply Kd.R_drewN | apply Kd.R_drew)); exact HO511.out⟩, ⟨by repeat (first | (with_reducible first | exact HB.out | apply below_alloc | apply pw_below_drewN | apply below_drew1) | exact HB.out)⟩⟩
       ·rw [if_neg c23] at H
        have c23b0 : decide (t504 < 0) = false := decide_eq_false c23
        clear c23
        by_cases c24 : (t505.length : Int) = (t499.length : Int)
        ·rw [if_pos c24] at H
         have c24b0 : ((t505.length : Int) == (t499.length : Int)) = true := beq_iff_eq.mpr c24
         have c24b1 : ((t505.length : Int) != (t499.length : Int)) = false := bne_eq_false_iff_eq.mpr c24
         have c24b2 : (t505.length == t499.length) = true := by first | simpa using c24 | (simp at c24 ⊢; omega)
         clear c24
         have H' := Aside0.mk H
         clear H
         obtain ⟨Ao25, co25, eo25⟩ := Kd.R_slice HO507.out
         subst eo25
         obtain ⟨Ao26, co26, eo26⟩ := Kd.R_slice HO_12.out
         subst eo26
         obtain ⟨Ao27, co27, eo27⟩ := Kd.R_slice HO511.out
         subst eo27
         go_wp2
         go_meet
         case rel => exact ⟨_, (((t508.length : Int) != (l1.length : Int))), sd_, H', ⟨by have := HJ9.out; first | omega | exact Nat.le_refl _⟩, ⟨by (with_reducible repeat (first | apply Kd.R_alloc | apply Kd.R_drewN | apply Kd.R_drew)); exact HO_12.out⟩, ⟨by (with_reducible repeat (first | apply Kd.R_alloc | apply Kd.R_drewN | apply Kd.R_drew)); exact HO507.out⟩, ⟨by (with_reducible repeat (first | apply Kd.R_alloc | apply Kd.R_drewN | apply Kd.R_drew)); exact HO511.out⟩, ⟨by repeat (first | (with_reducible first | exact HB.out | apply below_alloc | apply pw_below_drewN | apply below_drew1) | exact HB.out)⟩⟩
        ·rw [if_neg c24] at H
         have c24b0 : ((t505.length : Int) == (t499.length : Int)) = false := beq_eq_false_iff_ne.mpr c24
         have c24b1 : ((t505.length : Int) != (t499.length : Int)) = true := bne_iff_ne.mpr c24
         have c24b2 : (t505.length == t499.length) = false := by first | simpa using c24 | (simp at c24 ⊢; omega)
         have H' := Aside0.mk H
         clear H
         obtain ⟨Ao28, co28, eo28⟩ := Kd.R_slice HO507.out
         subst eo28
         obtain ⟨Ao29, co29, eo29⟩ := Kd.R_slice HO_12.out
         subst eo29
         go_wp2
         go_meet
         case rel => exact ⟨_, (true), sd_, H', ⟨by have := HJ9.out; first | omega | exact Nat.le_refl _⟩, ⟨by (with_reducible repeat (first | apply Kd.R_alloc | apply Kd.R_drewN | apply Kd.R_drew)); exact HO_12.out⟩, ⟨by (with_reducible repeat (first | apply Kd.R_alloc | apply Kd.R_drewN | apply Kd.R_drew)); exact HO507.out⟩, ⟨by (with_reducible repeat (first | apply Kd.R_alloc | apply Kd.R_drewN | apply Kd.R_drew)); exact HO511.out⟩, ⟨by repeat (first | (with_reducible first | exact HB.out | apply below_alloc | apply pw_below_drewN | apply below_drew1) | exact HB.out)⟩⟩
      ·rw [if_neg c22] at H
       have c22b0 : (t509 == 0) = false := beq_eq_false_iff_ne.mpr c22
       have c22b1 : (t509 != 0) = true := bne_iff_ne.mpr c22
       (first | rw [c22b0] | (simp only [i64_w, i32_w]; rw [c22b0]) | skip)
       have H' := Aside0.mk H
       clear H
       go_wp2
       go_meet
       case rel => exact ⟨_, (true), sd_, H', ⟨by have := HJ9.out; first | omega | exact Nat.le_refl _⟩, ⟨by (with_reducible repeat (first | apply Kd.R_alloc | apply Kd.R_drewN | apply Kd.R_drew)); exact HO_12.out⟩, ⟨by (with_reducible repeat (first | apply Kd.R_alloc | apply Kd.R_drewN | apply Kd.R_drew)); exact HO507.out⟩, ⟨by (with_reducible repeat (first | apply Kd.R_alloc | apply Kd.R_drewN | apply Kd.R_drew)); exact HO511.out⟩, ⟨by repeat (first | (with_reducible first | exact HB.out | apply below_alloc | apply pw_below_drewN | apply below_drew1) | exact HB.out)⟩⟩
     case rest => as_aux_lemma =>
      clear HC19
      try clear c1
      try clear c2
      try clear p2
      try clear c3
      try clear c8
      try clear c10
      try clear c13
      try clear c13b0
      try clear c13b1
      try clear c14
      try clear c15
      try clear c17
      try clear c18
      try clear c20
      try clear c21
      try clear c22
      try clear c22b0
      try clear c22b1
      try clear c23
      try clear c23b0
      try clear c24
      try clear c24b0
      try clear c24b1
      try clear c24b2
      try clear p2
      obtain ⟨kq, x81_18, rfl, HA, HJ18, HO_12, HO_16, HO_17, HB⟩ := hcut
      cases kq with
      | zero => exact absurd HA.out (by simp [cohousinglaw29_ChargesTight.j1])
      | succ kj18 =>
       have H := HA.out
       clear HA
       simp only [cohousinglaw29_ChargesTight.j1] at H
       by_cases c30 : x81_18 = true
       ·subst c30
        have H1 : (some false) = some r := by rw [if_pos rfl] at H; exact H
        clear H
        have H := H1
        clear H1
        obtain rfl := Option.some.inj H
        go_wp2
        go_ret
        exact ⟨ew_, by repeat (first | (with_reducible first | exact HB.out | apply below_alloc | apply pw_below_drewN | apply below_drew1) | exact HB.out)⟩
       ·replace c30 := Bool.eq_false_iff.mpr c30
        subst c30
        have H1 : (if (t499.length : Int) = 0 then (none) else (if 0 ≤ (Int.tmod (wrap64 (a4)) (t499.length : Int)) then (if (Int.tmod (wrap64 (a4)) (t499.length : Int)) < (t505.length : Int) then (if 0 ≤ (rd t505 (Int.tmod (wrap64 (a4)) (t499.length : Int))) then (if (rd t505 (Int.tmod (wrap64 (a4)) (t499.length : Int))) < (t508.length : Int) then ((flow_State.f l1 l2 (rd t505 (Int.tmod (wrap64 (a4)) (t499.length : Int))) ((rd_T38 t508 (rd t505 (Int.tmod (wrap64 (a4)) (t499.length : Int)))).f0)).bind fun bt515 => ((flow_State.f l1 l2 (rd t505 (Int.tmod (wrap64 (a4)) (t499.length : Int))) ((rd_T38 t508 (rd t505 (Int.tmod (wrap64 (a4)) (t499.length : Int)))).f1)).bind fun bt522 => (if bt515.2 = 0 then (if bt522.2 = 0 then (if (bt515.1.length : Int) = (l1.length : Int) then (cohousinglaw29_ChargesTight.j2 kj18 a0 l1 l2 t497 t499 t504 t505 (Int.tmod (wrap64 (a4)) (t499.length : Int)) bt515.1 bt522.1 ((bt522.1.length : Int) != (l1.length : Int))) else (cohousinglaw29_ChargesTight.j2 kj18 a0 l1 l2 t497 t499 t504 t505 (Int.tmod (wrap64 (a4)) (t499.length : Int)) bt515.1 bt522.1 true)) else (cohousinglaw29_ChargesTight.j2 kj18 a0 l1 l2 t497 t499 t504 t505 (Int.tmod (wrap64 (a4)) (t499.length : Int)) bt515.1 bt522.1 true)) else (cohousinglaw29_ChargesTight.j2 kj18 a0 l1 l2 t497 t499 t504 t505 (Int.tmod (wrap64 (a4)) (t499.length : Int)) bt515.1 bt522.1 true)))) else (none)) else (none)) else (none)) else (none))) = some r := by rw [if_neg (show ¬ (false = true) by decide)] at H; exact H
        clear H
        have H := H1
        clear H1
        by_cases c31 : (t499.length : Int) = 0
        ·rw [if_pos c31] at H
         exact absurd H (by simp)
        ·rw [if_neg c31] at H
         have c31b0 : ((t499.length : Int) == 0) = false := beq_eq_false_iff_ne.mpr c31
         have c31b1 : ((t499.length : Int) != 0) = true := bne_iff_ne.mpr c31
         have c31b2 : ¬ (t499 = []) := fun h_ => c31 (by rw [h_]; rfl)
         obtain ⟨ji32, hji32⟩ : ∃ j_ : Int, (Int.tmod (wrap64 (a4)) (t499.length : Int)) = j_ := ⟨_, rfl⟩
         replace H : (if 0 ≤ (ji32) then (if (ji32) < (t505.length : Int) then (if 0 ≤ (rd t505 (ji32)) then (if (rd t505 (ji32)) < (t508.length : Int) then ((flow_State.f l1 l2 (rd t505 (ji32)) ((rd_T38 t508 (rd t505 (ji32))).f0)).bind fun bt515 => ((flow_State.f l1 l2 (rd t505 (ji32)) ((rd_T38 t508 (rd t505 (ji32))).f1)).bind fun bt522 => (if bt515.2 = 0 then (if bt522.2 = 0 then (if (bt515.1.length : Int) = (l1.length : Int) then (cohousinglaw29_ChargesTight.j2 kj18 a0 l1 l2 t497 t499 t504 t505 ji32 bt515.1 bt522.1 ((bt522.1.length : Int) != (l1.length : Int))) else (cohousinglaw29_ChargesTight.j2 kj18 a0 l1 l2 t497 t499 t504 t505 ji32 bt515.1 bt522.1 true)) else (cohousinglaw29_ChargesTight.j2 kj18 a0 l1 l2 t497 t499 t504 t505 ji32 bt515.1 bt522.1 true)) else (cohousinglaw29_ChargesTight.j2 kj18 a0 l1 l2 t497 t499 t504 t505 ji32 bt515.1 bt522.1 true)))) else (none)) else (none)) else (none)) else (none)) = some r := by first | (rw [hji32] at H; exact H) | (simp only [hji32] at H ⊢; exact H)
         by_cases c33 : 0 ≤ (ji32)
         ·rw [if_pos c33] at H
          have c33b0 : decide (0 ≤ (ji32)) = true := decide_eq_true c33
          clear c33
          by_cases c34 : (ji32) < (t505.length : Int)
          ·rw [if_pos c34] at H
           have c34b0 : decide ((ji32) < (t505.length : Int)) = true := decide_eq_true c34
           clear c34
           by_cases c35 : 0 ≤ (rd t505 (ji32))
           ·rw [if_pos c35] at H
            have c35b0 : decide (0 ≤ (rd t505 (ji32))) = true := decide_eq_true c35
            clear c35
            by_cases c36 : (rd t505 (ji32)) < (t508.length : Int)
            ·as_aux_lemma =>
              rw [if_pos c36] at H
              have c36b0 : decide ((rd t505 (ji32)) < (t508.length : Int)) = true := decide_eq_true c36
              clear c36
              replace H := Option.bind_eq_some_iff.mp H
              obtain ⟨⟨t515, t516⟩, A370, H⟩ := H
              replace H : ((flow_State.f l1 l2 (rd t505 (ji32)) ((rd_T38 t508 (rd t505 (ji32))).f1)).bind fun bt522 => (if t516 = 0 then (if bt522.2 = 0 then (if (t515.length : Int) = (l1.length : Int) then (cohousinglaw29_ChargesTight.j2 kj18 a0 l1 l2 t497 t499 t504 t505 ji32 t515 bt522.1 ((bt522.1.length : Int) != (l1.length : Int))) else (cohousinglaw29_ChargesTight.j2 kj18 a0 l1 l2 t497 t499 t504 t505 ji32 t515 bt522.1 true)) else (cohousinglaw29_ChargesTight.j2 kj18 a0 l1 l2 t497 t499 t504 t505 ji32 t515 bt522.1 true)) else (cohousinglaw29_ChargesTight.j2 kj18 a0 l1 l2 t497 t499 t504 t505 ji32 t515 bt522.1 true))) = some r := H
              have A37 := Aside0.mk A370
              clear A370
              replace H := Option.bind_eq_some_iff.mp H
              obtain ⟨⟨t522, t523⟩, A380, H⟩ := H
              replace H : (if t516 = 0 then (if t523 = 0 then (if (t515.length : Int) = (l1.length : Int) then (cohousinglaw29_ChargesTight.j2 kj18 a0 l1 l2 t497 t499 t504 t505 ji32 t515 t522 ((t522.length : Int) != (l1.length : Int))) else (cohousinglaw29_ChargesTight.j2 kj18 a0 l1 l2 t497 t499 t504 t505 ji32 t515 t522 true)) else (cohousinglaw29_ChargesTight.j2 kj18 a0 l1 l2 t497 t499 t504 t505 ji32 t515 t522 true)) else (cohousinglaw29_ChargesTight.j2 kj18 a0 l1 l2 t497 t499 t504 t505 ji32 t515 t522 true)) = some r := H
              have A38 := Aside0.mk A380
              clear A380
              have HC39 := Aside0.mk H
              clear H
              obtain ⟨Ao40, co40, eo40⟩ := Kd.R_slice HO_12.out
              subst eo40
              try go_wp2
              have n0_ := Aside0.mk (Kd.R_drew HO_12.out)
              have n1_ := Aside0.mk (Kd.R_drew HO_16.out)
              have n2_ := Aside0.mk (Kd.R_drew HO_17.out)
              have n3_ := Aside0.mk (below_drew1 HB.out)
              clear HO_12
              clear HO_16
              clear HO_17
              clear HB
              have HO_12 := n0_
              have HO_16 := n1_
              have HO_17 := n2_
              have HB := n3_
              clear n0_ n1_ n2_ n3_
              obtain ⟨Ao42, co42, eo42⟩ := Kd.R_slice HO_16.out
              (first | subst eo42 | (injection eo42 with f1_ f2_ f3_; have f4_ := f1_.symm; have f5_ := f3_.symm; clear f1_ f2_ f3_; subst f4_; subst f5_))
              have p512 : 0 ≤ ((ji32) : Int) := od_
              have q512 : (ji32) < (t505.length : Int) := od_
              obtain ⟨ad512, e512, hx512_0⟩ := Kd.at_int (Kd.R_reads' HO_16.out).2.2 (ji32) p512 q512
              cases e512
              replace p512 := eq_true p512
              replace q512 := eq_true q512
              have p513 : 0 ≤ ((ji32) : Int) := od_
              have q513 : (ji32) < (t505.length : Int) := od_
              obtain ⟨ad513, e513, hx513_0⟩ := Kd.at_int (Kd.R_reads' HO_16.out).2.2 (ji32) p513 q513
              obtain rfl : ad512 = ad513 := (by injection e513)
              replace p513 := eq_true p513
              replace q513 := eq_true q513
              obtain ⟨Ao43, co43, eo43⟩ := Kd.R_slice HO_17.out
              (first | subst eo43 | (injection eo43 with f1_ f2_ f3_; have f4_ := f1_.symm; have f5_ := f3_.symm; clear f1_ f2_ f3_; subst f4_; subst f5_))
              have p514 : 0 ≤ ((rd t505 (ji32)) : Int) := od_
              have q514 : (rd t505 (ji32)) < (t508.length : Int) := od_
              obtain ⟨ad514, e514, hx514_0, hx514_1⟩ := at_T38 (Kd.R_reads' HO_17.out).2.2 (rd t505 (ji32)) p514 q514
              cases e514
              replace p514 := eq_true p514
              replace q514 := eq_true q514
              refine start_ (n := 20) (S := fun w' => w'.cell? (ad512.add ((ji32)).toNat) = some (.int .i64 (rd t505 (ji32))) ∧ w'.cell? (ad512.add ((ji32)).toNat) = some (.int .i64 (rd t505 (ji32))) ∧ w'.cell? (ad514.add (((rd t505 (ji32))).toNat * 2)) = some (.int .i64 ((rd_T38 t508 (rd t505 (ji32))).f0)) ∧ w'.cell? ⟨(ad514.add (((rd t505 (ji32))).toNat * 2)).block, (ad514.add (((rd t505 (ji32))).toNat * 2)).off + 1, none⟩ = some (.int .i64 ((rd_T38 t508 (rd t505 (ji32))).f1))) (ds := []) #[n_, n_, n_, n_, n_, n_, n_, n_, n_, n_, n_, n_, n_, n_, n_, n_, n_, n_, n_, n_] (by kernel_rfl) rfl rfl ⟨hx512_0, hx513_0, hx514_0, hx514_1⟩ (fun hHeld => ?_); refine with_tabW cohousinglaw29_ChargesTight.tab13 cohousinglaw29_ChargesTight.bits13 (fun HT_ HW_ => ?_)
              generalize wc.drew = w41 at HO_12 HO_16 HO_17 HB hx512_0 hx513_0 hx514_0 hx514_1 hHeld ⊢
              refine pu_ 0 88 (w_ 20 1) rfl HT_ ?_
              refine pu_ 1 89 (w_ 20 3) rfl HT_ ?_
              refine pu_ 2 90 (w_ 20 7) rfl HT_ ?_
              refine pu_ 3 91 (w_ 20 15) rfl HT_ ?_
              refine pu_ 4 92 (w_ 20 31) rfl HT_ ?_
              refine pu_ 6 94 (w_ 20 95) rfl HT_ ?_
              refine pu_ 7 95 (w_ 20 223) rfl HT_ ?_
              refine pu_ 8 96 (w_ 20 479) rfl HT_ ?_
              refine pu_ 9 97 (w_ 20 991) rfl HT_ ?_
              refine ta_ 5 93 (w_ 20 1023) rfl HT_ HW_ hHeld (by rintro w' ⟨s0, s1, s2, s3⟩; go_simp; with_reducible rfl) ?_
              refine ta_ 10 98 (w_ 20 2047) rfl HT_ HW_ hHeld (by rintro w' ⟨s0, s1, s2, s3⟩; go_simp; with_reducible rfl) ?_
              refine pu_ 11 99 (w_ 20 4095) rfl HT_ ?_
              refine pu_ 12 100 (w_ 20 8191) rfl HT_ ?_
              refine ta_ 13 101 (w_ 20 16383) rfl HT_ HW_ hHeld (by rintro w' ⟨s0, s1, s2, s3⟩; go_simp; with_reducible rfl) ?_
              refine one_ (i := 14) (N := some 102) (w_ 20 32767) rfl rfl (one_of HT_.out (by kernel_rfl)) (by decide) (fun K hK => ?_)
              refine goes_ Try.func29 (by kernel_rfl) rfl #[.slice A1 l1.length c1, .slice A2 l2.length c2, .int .i64 (rd t505 (ji32)), .int .i64 ((rd_T38 t508 (rd t505 (ji32))).f0)] (by rfl) rfl rfl (by (try simp only [List.map_toArray, List.map_cons, List.map_nil]); first | done | (simp only [hji32]; rfl) | rfl | (simp only [List.length_drop, List.length_take]; rfl)) ?_
              with_reducible refine (flow_State.calls _ _ l1 _ _ l2 (rd t505 (ji32)) ((rd_T38 t508 (rd t505 (ji32))).f0) t515 t516 _ ?side1 ?side2 ?side3 ?side4 A37.out).mono ?_
              (case side1 => exact cc_ ((Kd.C_below HR1.out HB.out)))
              (case side2 => exact HC1.out)
              (case side3 => exact cc_ ((Kd.C_below HR2.out HB.out)))
              (case side4 => exact HC2.out)
              rintro e w44 ⟨v517, rfl, ho0, hb⟩
              have HS0_ := (hb.cell (World.block_lt_of_cell? _ _ (hHeld.1))).trans (hHeld.1)
              have HS1_ := (hb.cell (World.block_lt_of_cell? _ _ (hHeld.2.1))).trans (hHeld.2.1)
              have HS2_ := (hb.cell (World.block_lt_of_cell? _ _ (hHeld.2.2.1))).trans (hHeld.2.2.1)
              have HS3_ := (hb.cell (World.block_lt_of_cell? _ _ (hHeld.2.2.2))).trans (hHeld.2.2.2)
              refine ⟨_, rfl, ?_⟩
              have n0_ := Aside0.mk (Kd.R_below (rr_ HO_12) hb)
              have n1_ := Aside0.mk (Kd.R_elder' (rr_ HO_16) (Kd.R_base ho0) hb)
              have n2_ := Aside0.mk (Kd.R_below (rr_ HO_17) hb)
              have n3_ := Aside0.mk (Kd.R_lower (Kd.R_new' ho0 (Kd.R_lt (rr_ HO_16))) (below_size (bb_ HB)))
              have n4_ := Aside0.mk (below_step (bb_ HB) hb)
              clear HO_12
              clear HO_16
              clear HO_17
              clear HB
              have HO_12 := n0_
              have HO_16 := n1_
              have HO_17 := n2_
              have HO518 := n3_
              have HB := n4_
              clear n0_ n1_ n2_ n3_ n4_
              (try clear hb)
              (try clear hb2)
              (try clear hk)
              (try clear hi)
              (try clear ho0)
              refine hK.out _ _ ⟨HS0_, HS1_, HS2_, HS3_⟩ (fun hHeld => ?_)
              clear hK K
              refine norm_ (a' := ?_) ?_ ?_
              rotate_left
              ·show Act.put _ (some 102) _ = _
               simp only [Act.put, sI_, s0_, sS_, i64_w, i32_w]
               rfl
              refine pu_ 15 87 (w_ 20 65535) rfl HT_ ?_
              refine pu_ 16 103 (w_ 20 131071) rfl HT_ ?_
              refine pu_ 17 104 (w_ 20 262143) rfl HT_ ?_
              refine pu_ 18 20 (w_ 20 524287) rfl HT_ ?_
              refine pu_ 19 21 (w_ 20 1048575) rfl HT_ ?_
              refine done_ (done_of HT_.out (by kernel_rfl)) ?_
              try go_wp2
              have n0_ := Aside0.mk (Kd.R_drew HO_12.out)
              have n1_ := Aside0.mk (Kd.R_drew HO_16.out)
              have n2_ := Aside0.mk (Kd.R_drew HO_17.out)
              have n3_ := Aside0.mk (Kd.R_drew HO518.out)
              have n4_ := Aside0.mk (below_drew1 HB.out)
              clear HO_12
              clear HO_16
              clear HO_17
              clear HO518
              clear HB
              have HO_12 := n0_
              have HO_16 := n1_
              have HO_17 := n2_
              have HO518 := n3_
              have HB := n4_
              clear n0_ n1_ n2_ n3_ n4_
              have p519 : 0 ≤ ((ji32) : Int) := od_
              have q519 : (ji32) < (t505.length : Int) := od_
              obtain ⟨ad519, e519, hx519_0⟩ := Kd.at_int (Kd.R_reads' HO_16.out).2.2 (ji32) p519 q519
              obtain rfl : ad512 = ad519 := (by injection e519)
              replace p519 := eq_true p519
              replace q519 := eq_true q519
              have p520 : 0 ≤ ((ji32) : Int) := od_
              have q520 : (ji32) < (t505.length : Int) := od_
              obtain ⟨ad520, e520, hx520_0⟩ := Kd.at_int (Kd.R_reads' HO_16.out).2.2 (ji32) p520 q520
              obtain rfl : ad512 = ad520 := (by injection e520)
              replace p520 := eq_true p520
              replace q520 := eq_true q520
              have p521 : 0 ≤ ((rd t505 (ji32)) : Int) := od_
              have q521 : (rd t505 (ji32)) < (t508.length : Int) := od_
              obtain ⟨ad521, e521, hx521_0, hx521_1⟩ := at_T38 (Kd.R_reads' HO_17.out).2.2 (rd t505 (ji32)) p521 q521
              obtain rfl : ad514 = ad521 := (by injection e521)
              replace p521 := eq_true p521
              replace q521 := eq_true q521
              refine start_ (n := 20) (S := fun w' => w'.cell? (ad512.add ((ji32)).toNat) = some (.int .i64 (rd t505 (ji32))) ∧ w'.cell? (ad512.add ((ji32)).toNat) = some (.int .i64 (rd t505 (ji32))) ∧ w'.cell? (ad514.add (((rd t505 (ji32))).toNat * 2)) = some (.int .i64 ((rd_T38 t508 (rd t505 (ji32))).f0)) ∧ w'.cell? ⟨(ad514.add (((rd t505 (ji32))).toNat * 2)).block, (ad514.add (((rd t505 (ji32))).toNat * 2)).off + 1, none⟩ = some (.int .i64 ((rd_T38 t508 (rd t505 (ji32))).f1))) (ds := []) #[n_, n_, n_, n_, n_, n_, n_, n_, n_, n_, n_, n_, n_, n_, n_, n_, n_, n_, n_, n_] (by kernel_rfl) rfl rfl ⟨hx519_0, hx520_0, hx521_0, hx521_1⟩ (fun hHeld => ?_); refine with_tabW cohousinglaw29_ChargesTight.tab14 cohousinglaw29_ChargesTight.bits14 (fun HT_ HW_ => ?_)
              generalize w44.drew = w45 at HO_12 HO_16 HO_17 HO518 HB hx519_0 hx520_0 hx521_0 hx521_1 hHeld ⊢
              refine pu_ 0 106 (w_ 20 1) rfl HT_ ?_
              refine pu_ 1 107 (w_ 20 3) rfl HT_ ?_
              refine pu_ 2 108 (w_ 20 7) rfl HT_ ?_
              refine pu_ 3 109 (w_ 20 15) rfl HT_ ?_
              refine pu_ 4 110 (w_ 20 31) rfl HT_ ?_
              refine pu_ 6 112 (w_ 20 95) rfl HT_ ?_
              refine pu_ 7 113 (w_ 20 223) rfl HT_ ?_
              refine pu_ 8 114 (w_ 20 479) rfl HT_ ?_
              refine pu_ 9 115 (w_ 20 991) rfl HT_ ?_
              refine ta_ 5 111 (w_ 20 1023) rfl HT_ HW_ hHeld (by rintro w' ⟨s0, s1, s2, s3⟩; go_simp; with_reducible rfl) ?_
              refine ta_ 10 116 (w_ 20 2047) rfl HT_ HW_ hHeld (by rintro w' ⟨s0, s1, s2, s3⟩; go_simp; with_reducible rfl) ?_
              refine pu_ 11 117 (w_ 20 4095) rfl HT_ ?_
              refine pu_ 12 118 (w_ 20 8191) rfl HT_ ?_
              refine ta_ 13 119 (w_ 20 16383) rfl HT_ HW_ hHeld (by rintro w' ⟨s0, s1, s2, s3⟩; go_simp; with_reducible rfl) ?_
              refine one_ (i := 14) (N := some 120) (w_ 20 32767) rfl rfl (one_of HT_.out (by kernel_rfl)) (by decide) (fun K hK => ?_)
              refine goes_ Try.func29 (by kernel_rfl) rfl #[.slice A1 l1.length c1, .slice A2 l2.length c2, .int .i64 (rd t505 (ji32)), .int .i64 ((rd_T38 t508 (rd t505 (ji32))).f1)] (by rfl) rfl rfl (by (try simp only [List.map_toArray, List.map_cons, List.map_nil]); first | done | (simp only [hji32]; rfl) | rfl | (simp only [List.length_drop, List.length_take]; rfl)) ?_
              with_reducible refine (flow_State.calls _ _ l1 _ _ l2 (rd t505 (ji32)) ((rd_T38 t508 (rd t505 (ji32))).f1) t522 t523 _ ?side1 ?side2 ?side3 ?side4 A38.out).mono ?_
              (case side1 => exact cc_ ((Kd.C_below HR1.out HB.out)))
              (case side2 => exact HC1.out)
              (case side3 => exact cc_ ((Kd.C_below HR2.out HB.out)))
              (case side4 => exact HC2.out)
              rintro e w46 ⟨v524, rfl, ho0, hb⟩
              have HS0_ := (hb.cell (World.block_lt_of_cell? _ _ (hHeld.1))).trans (hHeld.1)
              have HS1_ := (hb.cell (World.block_lt_of_cell? _ _ (hHeld.2.1))).trans (hHeld.2.1)
              have HS2_ := (hb.cell (World.block_lt_of_cell? _ _ (hHeld.2.2.1))).trans (hHeld.2.2.1)
              have HS3_ := (hb.cell (World.block_lt_of_cell? _ _ (hHeld.2.2.2))).trans (hHeld.2.2.2)
              refine ⟨_, rfl, ?_⟩
              have n0_ := Aside0.mk (Kd.R_below (rr_ HO_12) hb)
              have n1_ := Aside0.mk (Kd.R_elder' (rr_ HO_16) (Kd.R_base ho0) hb)
              have n2_ := Aside0.mk (Kd.R_below (rr_ HO_17) hb)
              have n3_ := Aside0.mk (Kd.R_elder' (rr_ HO518) (Kd.R_base ho0) hb)
              have n4_ := Aside0.mk (Kd.R_lower (Kd.R_new' (Kd.R_new' ho0 (Kd.R_lt (rr_ HO_16))) (Kd.R_lt (rr_ HO518))) (below_size (bb_ HB)))
              have n5_ := Aside0.mk (below_step (bb_ HB) hb)
              clear HO_12
              clear HO_16
              clear HO_17
              clear HO518
              clear HB
              have HO_12 := n0_
              have HO_16 := n1_
              have HO_17 := n2_
              have HO518 := n3_
              have HO525 := n4_
              have HB := n5_
              clear n0_ n1_ n2_ n3_ n4_ n5_
              (try clear hb)
              (try clear hb2)
              (try clear hk)
              (try clear hi)
              (try clear ho0)
              refine hK.out _ _ ⟨HS0_, HS1_, HS2_, HS3_⟩ (fun hHeld => ?_)
              clear hK K
              refine norm_ (a' := ?_) ?_ ?_
              rotate_left
              ·show Act.put _ (some 120) _ = _
               simp only [Act.put, sI_, s0_, sS_, i64_w, i32_w]
               rfl
              refine pu_ 15 105 (w_ 20 65535) rfl HT_ ?_
              refine pu_ 16 121 (w_ 20 131071) rfl HT_ ?_
              refine pu_ 17 122 (w_ 20 262143) rfl HT_ ?_
              refine pu_ 18 22 (w_ 20 524287) rfl HT_ ?_
              refine pu_ 19 23 (w_ 20 1048575) rfl HT_ ?_
              refine done_ (done_of HT_.out (by kernel_rfl)) ?_
              go_upto_region 15 with (fail)
              go_cut [142] (fun v142 wc => ∃ (kq : Nat) (x142_38 : Bool), v142 = .bool x142_38 ∧ Aside0 (cohousinglaw29_ChargesTight.j2 kq a0 l1 l2 t497 t499 t504 t505 ji32 t515 t522 x142_38 = some r) ∧ Aside0 (kq ≤ kj18) ∧ Aside0 (Kd.R k43 43 wc w.heap.size (fun _ => True) (.slice Ao40 t499.length co40) t499) ∧ Aside0 (Kd.R (Kd.int .i64) 3 wc w.heap.size (fun k_ => some k_ ≠ (v517 : Value).ownBlock ∧ some k_ ≠ (v524 : Value).ownBlock) (.slice (some ad512) t505.length co42) t505) ∧ Aside0 (Kd.R (Kd.int .i64) 3 wc w.heap.size (fun k_ => some k_ ≠ ((.slice (some ad512) t505.length co42) : Value).ownBlock ∧ some k_ ≠ (v524 : Value).ownBlock) v517 t515) ∧ Aside0 (Kd.R (Kd.int .i64) 3 wc w.heap.size (fun k_ => some k_ ≠ ((.slice (some ad512) t505.length co42) : Value).ownBlock ∧ some k_ ≠ (v517 : Value).ownBlock) v524 t522) ∧ Aside0 (Below w.heap.size w wc))
              case first => as_aux_lemma =>
               have H := HC39.out
               clear HC39
               by_cases c47 : t516 = 0
               ·rw [if_pos c47] at H
                have c47b0 : (t516 == 0) = true := beq_iff_eq.mpr c47
                have c47b1 : (t516 != 0) = false := bne_eq_false_iff_eq.mpr c47
                clear c47
                (first | rw [c47b0] | (simp only [i64_w, i32_w]; rw [c47b0]) | skip)
                by_cases c48 : t523 = 0
                ·rw [if_pos c48] at H
                 have c48b0 : (t523 == 0) = true := beq_iff_eq.mpr c48
                 have c48b1 : (t523 != 0) = false := bne_eq_false_iff_eq.mpr c48
                 clear c48
                 by_cases c49 : (t515.length : Int) = (l1.length : Int)
                 ·rw [if_pos c49] at H
                  have c49b0 : ((t515.length : Int) == (l1.length : Int)) = true := beq_iff_eq.mpr c49
                  have c49b1 : ((t515.length : Int) != (l1.length : Int)) = false := bne_eq_false_iff_eq.mpr c49
                  have c49b2 : (t515.length == l1.length) = true := by first | simpa using c49 | (simp at c49 ⊢; omega)
                  clear c49
                  have H' := Aside0.mk H
                  clear H
                  obtain ⟨Ao50, co50, eo50⟩ := Kd.R_slice HO518.out
                  subst eo50
                  obtain ⟨Ao51, co51, eo51⟩ := Kd.R_slice HO525.out
                  subst eo51
                  go_wp2
                  go_meet
                  case rel => exact ⟨_, (((t522.length : Int) != (l1.length : Int))), sd_, H', ⟨by have := HJ9.out; have := HJ18.out; first | omega | exact Nat.le_refl _⟩, ⟨by (with_reducible repeat (first | apply Kd.R_alloc | apply Kd.R_drewN | apply Kd.R_drew)); exact HO_12.out⟩, ⟨by (with_reducible repeat (first | apply Kd.R_alloc | apply Kd.R_drewN | apply Kd.R_drew)); exact Kd.R_mono HO_16.out (fun _ hk => ⟨hk.1.2, hk.2⟩)⟩, ⟨by (with_reducible repeat (first | apply Kd.R_alloc | apply Kd.R_drewN | apply Kd.R_drew)); exact Kd.R_mono HO518.out (fun _ hk => ⟨hk.1.2, hk.2⟩)⟩, ⟨by (with_reducible repeat (first | apply Kd.R_alloc | apply Kd.R_drewN | apply Kd.R_drew)); exact Kd.R_mono HO525.out (fun _ hk => ⟨hk.1.2, hk.2⟩)⟩, ⟨by repeat (first | (with_reducible first | exact HB.out | apply below_alloc | apply pw_below_drewN | apply below_drew1) | exact HB.out)⟩⟩
                 ·rw [if_neg c49] at H
                  have c49b0 : ((t515.length : Int) == (l1.length : Int)) = false := beq_eq_false_iff_ne.mpr c49
                  have c49b1 : ((t515.length : Int) != (l1.length : Int)) = true := bne_iff_ne.mpr c49
                  have c49b2 : (t515.length == l1.length) = false := by first | simpa using c49 | (simp at c49 ⊢; omega)
                  have H' := Aside0.mk H
                  clear H
                  obtain ⟨Ao52, co52, eo52⟩ := Kd.R_slice HO518.out
                  subst eo52
                  go_wp2
                  go_meet
                  case rel => exact ⟨_, (true), sd_, H', ⟨by have := HJ9.out; have := HJ18.out; first | omega | exact Nat.le_refl _⟩, ⟨by (with_reducible repeat (first | apply Kd.R_alloc | apply Kd.R_drewN | apply Kd.R_drew)); exact HO_12.out⟩, ⟨by (with_reducible repeat (first | apply Kd.R_alloc | apply Kd.R_drewN | apply Kd.R_drew)); exact Kd.R_mono HO_16.out (fun _ hk => ⟨hk.1.2, hk.2⟩)⟩, ⟨by (with_reducible repeat (first | apply Kd.R_alloc | apply Kd.R_drewN | apply Kd.R_drew)); exact Kd.R_mono HO518.out (fun _ hk => ⟨hk.1.2, hk.2⟩)⟩, ⟨by (with_reducible repeat (first | apply Kd.R_alloc | apply Kd.R_drewN | apply Kd.R_drew)); exact Kd.R_mono HO525.out (fun _ hk => ⟨hk.1.2, hk.2⟩)⟩, ⟨by repeat (first | (with_reducible first | exact HB.out | apply below_alloc | apply pw_below_drewN | apply below_drew1) | exact HB.out)⟩⟩
                ·rw [if_neg c48] at H
                 have c48b0 : (t523 == 0) = false := beq_eq_false_iff_ne.mpr c48
                 have c48b1 : (t523 != 0) = true := bne_iff_ne.mpr c48
                 have H' := Aside0.mk H
                 clear H
                 go_wp2
                 go_meet
                 case rel => exact ⟨_, (true), sd_, H', ⟨by have := HJ9.out; have := HJ18.out; first | omega | exact Nat.le_refl _⟩, ⟨by (with_reducible repeat (first | apply Kd.R_alloc | apply Kd.R_drewN | apply Kd.R_drew)); exact HO_12.out⟩, ⟨by (with_reducible repeat (first | apply Kd.R_alloc | apply Kd.R_drewN | apply Kd.R_drew)); exact Kd.R_mono HO_16.out (fun _ hk => ⟨hk.1.2, hk.2⟩)⟩, ⟨by (with_reducible repeat (first | apply Kd.R_alloc | apply Kd.R_drewN | apply Kd.R_drew)); exact Kd.R_mono HO518.out (fun _ hk => ⟨hk.1.2, hk.2⟩)⟩, ⟨by (with_reducible repeat (first | apply Kd.R_alloc | apply Kd.R_drewN | apply Kd.R_drew)); exact Kd.R_mono HO525.out (fun _ hk => ⟨hk.1.2, hk.2⟩)⟩, ⟨by repeat (first | (with_reducible first | exact HB.out | apply below_alloc | apply pw_below_drewN | apply below_drew1) | exact HB.out)⟩⟩
               ·rw [if_neg c47] at H
                have c47b0 : (t516 == 0) = false := beq_eq_false_iff_ne.mpr c47
                have c47b1 : (t516 != 0) = true := bne_iff_ne.mpr c47
                (first | rw [c47b0] | (simp only [i64_w, i32_w]; rw [c47b0]) | skip)
                have H' := Aside0.mk H
                clear H
                go_wp2
                go_meet
                case rel => exact ⟨_, (true), sd_, H', ⟨by have := HJ9.out; have := HJ18.out; first | omega | exact Nat.le_refl _⟩, ⟨by (with_reducible repeat (first | apply Kd.R_alloc | apply Kd.R_drewN | apply Kd.R_drew)); exact HO_12.out⟩, ⟨by (with_reducible repeat (first | apply Kd.R_alloc | apply Kd.R_drewN | apply Kd.R_drew)); exact Kd.R_mono HO_16.out (fun _ hk => ⟨hk.1.2, hk.2⟩)⟩, ⟨by (with_reducible repeat (first | apply Kd.R_alloc | apply Kd.R_drewN | apply Kd.R_drew)); exact Kd.R_mono HO518.out (fun _ hk => ⟨hk.1.2, hk.2⟩)⟩, ⟨by (with_reducible repeat (first | apply Kd.R_alloc | apply Kd.R_drewN | apply Kd.R_drew)); exact Kd.R_mono HO525.out (fun _ hk => ⟨hk.1.2, hk.2⟩)⟩, ⟨by repeat (first | (with_reducible first | exact HB.out | apply below_alloc | apply pw_below_drewN | apply below_drew1) | exact HB.out)⟩⟩
              case rest => as_aux_lemma =>
               clear HC39
               try clear c1
               try clear c2
               try clear p2
               try clear c3
               try clear c4
               try clear p5
               try clear q5
               try clear hx5
               try clear p6
               try clear c18
               try clear c20
               try clear c21
               try clear c22
               try clear c22b0
               try clear c22b1
               try clear c23
               try clear c23b0
               try clear c24
               try clear c24b0
               try clear c24b1
               try clear c24b2
               try clear c29
               try clear c30
               try clear c31
               try clear c31b0
               try clear c31b1
               try clear c31b2
               try clear c33
               try clear c33b0
               try clear c34
               try clear c34b0
               try clear c35
               try clear c35b0
               try clear c36
               try clear c36b0
               try clear c47
               try clear c47b0
               try clear c47b1
               try clear c48
               try clear c48b0
               try clear c48b1
               try clear c49
               try clear c49b0
               try clear c49b1
               try clear c49b2
               try clear p51
               try clear q51
               try clear hx51
               try clear p52
               try clear q52
               try clear hx52
               try clear hx512_0
               try clear hx513_0
               try clear hx514_0
               try clear hx514_1
               try clear hx519_0
               try clear hx520_0
               try clear hx521_0
               try clear hx521_1
               try clear p2
               try clear p512
               try clear p513
               try clear p514
               try clear p519
               try clear p520
               try clear p521
               try clear q512
               try clear q513
               try clear q514
               try clear q519
               try clear q520
               try clear q521
               obtain ⟨kq, x142_38, rfl, HA, HJ38, HO_12, HO_16, HO_20, HO_22, HB⟩ := hcut
               cases kq with
               | zero => exact absurd HA.out (by simp [cohousinglaw29_ChargesTight.j2])
               | succ kj38 =>
                have H := HA.out
                clear HA
                simp only [cohousinglaw29_ChargesTight.j2] at H
                by_cases c53 : x142_38 = true
                ·subst c53
                 have H1 : (some false) = some r := by rw [if_pos rfl] at H; exact H
                 clear H
                 have H := H1
                 clear H1
                 obtain rfl := Option.some.inj H
                 go_wp2
                 go_ret
                 exact ⟨by first | rfl | (simp [errW_none, errW_some] <;> rfl) | (simp only [← hji32]; first | rfl | (simp [errW_none, errW_some] <;> rfl)) | (simp [*, errW_none, errW_some] <;> rfl), by repeat (first | (with_reducible first | exact HB.out | apply below_alloc | apply pw_below_drewN | apply below_drew1) | exact HB.out)⟩
                ·replace c53 := Bool.eq_false_iff.mpr c53
                 subst c53
                 have H1 : ((flow_Consistent.f l1 l2 t515).bind fun bt526 => ((flow_Consistent.f l1 l2 t522).bind fun bt528 => (if bt526.2 = 0 then (if bt528.2 = 0 then (if bt526.1 = true then (cohousinglaw29_ChargesTight.j3 kj38 a0 t497 t499 t504 t505 ji32 t515 t522 (!bt528.1)) else (cohousinglaw29_ChargesTight.j3 kj38 a0 t497 t499 t504 t505 ji32 t515 t522 true)) else (cohousinglaw29_ChargesTight.j3 kj38 a0 t497 t499 t504 t505 ji32 t515 t522 true)) else (cohousinglaw29_ChargesTight.j3 kj38 a0 t497 t499 t504 t505 ji32 t515 t522 true)))) = some r := by rw [if_neg (show ¬ (false = true) by decide)] at H; exact H
                 clear H
                 have H := H1
                 clear H1
                 replace H := Option.bind_eq_some_iff.mp H
                 obtain ⟨⟨t526, t527⟩, A540, H⟩ := H
                 replace H : ((flow_Consistent.f l1 l2 t522).bind fun bt528 => (if t527 = 0 then (if bt528.2 = 0 then (if t526 = true then (cohousinglaw29_ChargesTight.j3 kj38 a0 t497 t499 t504 t505 ji32 t515 t522 (!bt528.1)) else (cohousinglaw29_ChargesTight.j3 kj38 a0 t497 t499 t504 t505 ji32 t515 t522 true)) else (cohousinglaw29_ChargesTight.j3 kj38 a0 t497 t499 t504 t505 ji32 t515 t522 true)) else (cohousinglaw29_ChargesTight.j3 kj38 a0 t497 t499 t504 t505 ji32 t515 t522 true))) = some r := H
                 have A54 := Aside0.mk A540
                 clear A540
                 replace H := Option.bind_eq_some_iff.mp H
                 obtain ⟨⟨t528, t529⟩, A550, H⟩ := H
                 replace H : (if t527 = 0 then (if t529 = 0 then (if t526 = true then (cohousinglaw29_ChargesTight.j3 kj38 a0 t497 t499 t504 t505 ji32 t515 t522 (!t528)) else (cohousinglaw29_ChargesTight.j3 kj38 a0 t497 t499 t504 t505 ji32 t515 t522 true)) else (cohousinglaw29_ChargesTight.j3 kj38 a0 t497 t499 t504 t505 ji32 t515 t522 true)) else (cohousinglaw29_ChargesTight.j3 kj38 a0 t497 t499 t504 t505 ji32 t515 t522 true)) = some r := H
                 have A55 := Aside0.mk A550
                 clear A550
                 have HC56 := Aside0.mk H
                 clear H
                 obtain ⟨Ao57, co57, eo57⟩ := Kd.R_slice HO_20.out
                 subst eo57
                 go_upto_region 19 with (first | ((with_reducible refine gate_callee (f := 16) rfl ?_); refine gl_ (some 147) Try.func16 #[.slice A1 l1.length c1, .slice A2 l2.length c2, .slice Ao57 t515.length co57] ?_; (with_reducible refine (flow_Consistent.calls _ _ l1 _ _ l2 _ _ t515 t526 t527 _ ?side1 ?side2 ?side3 ?side4 ?side5 ?side6 A54.out).mono ?_); (case side1 => exact cc_ ((Kd.C_below HR1.out HB.out))); (case side2 => exact HC1.out); (case side3 => exact cc_ ((Kd.C_below HR2.out HB.out))); (case side4 => exact HC2.out); (case side5 => exact cc_ ((Kd.R_reads' HO_20.out).2.2)); (case side6 => exact (Kd.R_reads' HO_20.out).2.1); rintro e w58 ⟨rfl, hb⟩; refine ⟨_, rfl, ?_⟩; have n0_ := Aside0.mk (Kd.R_below (rr_ HO_12) hb); have n1_ := Aside0.mk (Kd.R_below (rr_ HO_16) hb); have n2_ := Aside0.mk (Kd.R_below (rr_ HO_20) hb); have n3_ := Aside0.mk (Kd.R_below (rr_ HO_22) hb); have n4_ := Aside0.mk (below_step (bb_ HB) hb); clear HO_12; clear HO_16; clear HO_20; clear HO_22; clear HB; have HO_12 := n0_; have HO_16 := n1_; have HO_20 := n2_; have HO_22 := n3_; have HB := n4_; clear n0_ n1_ n2_ n3_ n4_; (try clear hb); (try clear hb2); (try clear hk); (try clear hi); obtain ⟨Ao59, co59, eo59⟩ := Kd.R_slice HO_22.out; subst eo59) | ((with_reducible refine gate_callee (f := 16) rfl ?_); refine gl_ (some 154) Try.func16 #[.slice A1 l1.length c1, .slice A2 l2.length c2, .slice Ao59 t522.length co59] ?_; (with_reducible refine (flow_Consistent.calls _ _ l1 _ _ l2 _ _ t522 t528 t529 _ ?side1 ?side2 ?side3 ?side4 ?side5 ?side6 A55.out).mono ?_); (case side1 => exact cc_ ((Kd.C_below HR1.out HB.out))); (case side2 => exact HC1.out); (case side3 => exact cc_ ((Kd.C_below HR2.out HB.out))); (case side4 => exact HC2.out); (case side5 => exact cc_ ((Kd.R_reads' HO_22.out).2.2)); (case side6 => exact (Kd.R_reads' HO_22.out).2.1); rintro e w60 ⟨rfl, hb⟩; refine ⟨_, rfl, ?_⟩; have n0_ := Aside0.mk (Kd.R_below (rr_ HO_12) hb); have n1_ := Aside0.mk (Kd.R_below (rr_ HO_16) hb); have n2_ := Aside0.mk (Kd.R_below (rr_ HO_20) hb); have n3_ := Aside0.mk (Kd.R_below (rr_ HO_22) hb); have n4_ := Aside0.mk (below_step (bb_ HB) hb); clear HO_12; clear HO_16; clear HO_20; clear HO_22; clear HB; have HO_12 := n0_; have HO_16 := n1_; have HO_20 := n2_; have HO_22 := n3_; have HB := n4_; clear n0_ n1_ n2_ n3_ n4_; (try clear hb); (try clear hb2); (try clear hk); (try clear hi)))
                 (try simp only [Act.put, sI_, s0_, sS_])
                 go_cut [170] (fun v170 wc => ∃ (kq : Nat) (x170_55 : Bool), v170 = .bool x170_55 ∧ Aside0 (cohousinglaw29_ChargesTight.j3 kq a0 t497 t499 t504 t505 ji32 t515 t522 x170_55 = some r) ∧ Aside0 (kq ≤ kj38) ∧ Aside0 (Kd.R k43 43 wc w.heap.size (fun _ => True) (.slice Ao40 t499.length co40) t499) ∧ Aside0 (Kd.R (Kd.int .i64) 3 wc w.heap.size (fun k_ => some k_ ≠ ((.slice Ao57 t515.length co57) : Value).ownBlock ∧ some k_ ≠ ((.slice Ao59 t522.length co59) : Value).ownBlock) (.slice (some ad512) t505.length co42) t505) ∧ Aside0 (Kd.R (Kd.int .i64) 3 wc w.heap.size (fun k_ => some k_ ≠ ((.slice (some ad512) t505.length co42) : Value).ownBlock ∧ some k_ ≠ ((.slice Ao59 t522.length co59) : Value).ownBlock) (.slice Ao57 t515.length co57) t515) ∧ Aside0 (Kd.R (Kd.int .i64) 3 wc w.heap.size (fun k_ => some k_ ≠ ((.slice (some ad512) t505.length co42) : Value).ownBlock ∧ some k_ ≠ ((.slice Ao57 t515.length co57) : Value).ownBlock) (.slice Ao59 t522.length co59) t522) ∧ Aside0 (Below w.heap.size w wc))
                 case first => as_aux_lemma =>
                  have H := HC56.out
                  clear HC56
                  by_cases c61 : t527 = 0
                  ·rw [if_pos c61] at H
                   have c61b0 : (t527 == 0) = true := beq_iff_eq.mpr c61
                   have c61b1 : (t527 != 0) = false := bne_eq_false_iff_eq.mpr c61
                   clear c61
                   (first | rw [c61b0] | (simp only [i64_w, i32_w]; rw [c61b0]) | skip)
                   by_cases c62 : t529 = 0
                   ·rw [if_pos c62] at H
                    have c62b0 : (t529 == 0) = true := beq_iff_eq.mpr c62
                    have c62b1 : (t529 != 0) = false := bne_eq_false_iff_eq.mpr c62
                    clear c62
                    by_cases c63 : t526 = true
                    ·subst c63
                     have H1 : (cohousinglaw29_ChargesTight.j3 kj38 a0 t497 t499 t504 t505 ji32 t515 t522 (!t528)) = some r := by rw [if_pos rfl] at H; exact H
                     clear H
                     have H := H1
                     clear H1
                     have H' := Aside0.mk H
                     clear H
                     go_wp2
                     go_meet
                     case rel => exact ⟨_, (!t528), sd_, H', ⟨by have := HJ9.out; have := HJ18.out; have := HJ38.out; first | omega | exact Nat.le_refl _⟩, ⟨by (with_reducible repeat (first | apply Kd.R_alloc | apply Kd.R_drewN | apply Kd.R_drew)); exact HO_12.out⟩, ⟨by (with_reducible repeat (first | apply Kd.R_alloc | apply Kd.R_drewN | apply Kd.R_drew)); exact HO_16.out⟩, ⟨by (with_reducible repeat (first | apply Kd.R_alloc | apply Kd.R_drewN | apply Kd.R_drew)); exact HO_20.out⟩, ⟨by (with_reducible repeat (first | apply Kd.R_alloc | apply Kd.R_drewN | apply Kd.R_drew)); exact HO_22.out⟩, ⟨by repeat (first | (with_reducible first | exact HB.out | apply below_alloc | apply pw_below_drewN | apply below_drew1) | exact HB.out)⟩⟩
                    ·replace c63 := Bool.eq_false_iff.mpr c63
                     subst c63
                     have H1 : (cohousinglaw29_ChargesTight.j3 kj38 a0 t497 t499 t504 t505 ji32 t515 t522 true) = some r := by rw [if_neg (show ¬ (false = true) by decide)] at H; exact H
                     clear H
                     have H := H1
                     clear H1
                     have H' := Aside0.mk H
                     clear H
                     go_wp2
                     go_meet
                     case rel => exact ⟨_, (true), sd_, H', ⟨by have := HJ9.out; have := HJ18.out; have := HJ38.out; first | omega | exact Nat.le_refl _⟩, ⟨by (with_reducible repeat (first | apply Kd.R_alloc | apply Kd.R_drewN | apply Kd.R_drew)); exact HO_12.out⟩, ⟨by (with_reducible repeat (first | apply Kd.R_alloc | apply Kd.R_drewN | apply Kd.R_drew)); exact HO_16.out⟩, ⟨by (with_reducible repeat (first | apply Kd.R_alloc | apply Kd.R_drewN | apply Kd.R_drew)); exact HO_20.out⟩, ⟨by (with_reducible repeat (first | apply Kd.R_alloc | apply Kd.R_drewN | apply Kd.R_drew)); exact HO_22.out⟩, ⟨by repeat (first | (with_reducible first | exact HB.out | apply below_alloc | apply pw_below_drewN | apply below_drew1) | exact HB.out)⟩⟩
                   ·rw [if_neg c62] at H
                    have c62b0 : (t529 == 0) = false := beq_eq_false_iff_ne.mpr c62
                    have c62b1 : (t529 != 0) = true := bne_iff_ne.mpr c62
                    have H' := Aside0.mk H
                    clear H
                    go_wp2
                    go_meet
                    case rel => exact ⟨_, (true), sd_, H', ⟨by have := HJ9.out; have := HJ18.out; have := HJ38.out; first | omega | exact Nat.le_refl _⟩, ⟨by (with_reducible repeat (first | apply Kd.R_alloc | apply Kd.R_drewN | apply Kd.R_drew)); exact HO_12.out⟩, ⟨by (with_reducible repeat (first | apply Kd.R_alloc | apply Kd.R_drewN | apply Kd.R_drew)); exact HO_16.out⟩, ⟨by (with_reducible repeat (first | apply Kd.R_alloc | apply Kd.R_drewN | apply Kd.R_drew)); exact HO_20.out⟩, ⟨by (with_reducible repeat (first | apply Kd.R_alloc | apply Kd.R_drewN | apply Kd.R_drew)); exact HO_22.out⟩, ⟨by repeat (first | (with_reducible first | exact HB.out | apply below_alloc | apply pw_below_drewN | apply below_drew1) | exact HB.out)⟩⟩
                  ·rw [if_neg c61] at H
                   have c61b0 : (t527 == 0) = false := beq_eq_false_iff_ne.mpr c61
                   have c61b1 : (t527 != 0) = true := bne_iff_ne.mpr c61
                   (first | rw [c61b0] | (simp only [i64_w, i32_w]; rw [c61b0]) | skip)
                   have H' := Aside0.mk H
                   clear H
                   go_wp2
                   go_meet
                   case rel => exact ⟨_, (true), sd_, H', ⟨by have := HJ9.out; have := HJ18.out; have := HJ38.out; first | omega | exact Nat.le_refl _⟩, ⟨by (with_reducible repeat (first | apply Kd.R_alloc | apply Kd.R_drewN | apply Kd.R_drew)); exact HO_12.out⟩, ⟨by (with_reducible repeat (first | apply Kd.R_alloc | apply Kd.R_drewN | apply Kd.R_drew)); exact HO_16.out⟩, ⟨by (with_reducible repeat (first | apply Kd.R_alloc | apply Kd.R_drewN | apply Kd.R_drew)); exact HO_20.out⟩, ⟨by (with_reducible repeat (first | apply Kd.R_alloc | apply Kd.R_drewN | apply Kd.R_drew)); exact HO_22.out⟩, ⟨by repeat (first | (with_reducible first | exact HB.out | apply below_alloc | apply pw_below_drewN | apply below_drew1) | exact HB.out)⟩⟩
                 case rest => as_aux_lemma =>
                  clear HC56
                  try clear c1
                  try clear c2
                  try clear p2
                  try clear c3
                  try clear c4
                  try clear c5
                  try clear p5
                  try clear q5
                  try clear hx5
                  try clear c6
                  try clear p6
                  try clear c16
                  try clear c18
                  try clear c20
                  try clear c21
                  try clear c22
                  try clear c22b0
                  try clear c22b1
                  try clear c23
                  try clear c23b0
                  try clear c24
                  try clear c24b0
                  try clear c24b1
                  try clear c24b2
                  try clear c29
                  try clear c30
                  try clear c31
                  try clear c31b0
                  try clear c31b1
                  try clear c31b2
                  try clear c33
                  try clear c33b0
                  try clear c34
                  try clear c34b0
                  try clear c35
                  try clear c35b0
                  try clear c36
                  try clear c36b0
                  try clear c47
                  try clear c47b0
                  try clear c47b1
                  try clear c48
                  try clear c48b0
                  try clear c48b1
                  try clear c49
                  try clear c49b0
                  try clear c49b1
                  try clear c49b2
                  try clear p51
                  try clear q51
                  try clear hx51
                  try clear p52
                  try clear q52
                  try clear hx52
                  try clear c53
                  try clear c61
                  try clear c61b0
                  try clear c61b1
                  try clear c62
                  try clear c62b0
                  try clear c62b1
                  try clear c63
                  try clear hx512_0
                  try clear hx513_0
                  try clear hx514_0
                  try clear hx514_1
                  try clear hx519_0
                  try clear hx520_0
                  try clear hx521_0
                  try clear hx521_1
                  try clear p2
                  try clear p5
                  try clear p51
                  try clear p512
                  try clear p513
                  try clear p514
                  try clear p519
                  try clear p52
                  try clear p520
                  try clear p521
                  try clear p6
                  try clear q5
                  try clear q51
                  try clear q512
                  try clear q513
                  try clear q514
                  try clear q519
                  try clear q52
                  try clear q520
                  try clear q521
                  obtain ⟨kq, x170_55, rfl, HA, HJ55, HO_12, HO_16, HO_20, HO_22, HB⟩ := hcut
                  cases kq with
                  | zero => exact absurd HA.out (by simp [cohousinglaw29_ChargesTight.j3])
                  | succ kj55 =>
                   have H := HA.out
                   clear HA
                   simp only [cohousinglaw29_ChargesTight.j3] at H
                   by_cases c64 : x170_55 = true
                   ·subst c64
                    have H1 : (some false) = some r := by rw [if_pos rfl] at H; exact H
                    clear H
                    have H := H1
                    clear H1
                    obtain rfl := Option.some.inj H
                    go_wp2
                    go_ret
                    exact ⟨by first | rfl | (simp [errW_none, errW_some] <;> rfl) | (simp only [← hji32]; first | rfl | (simp [errW_none, errW_some] <;> rfl)) | (simp [*, errW_none, errW_some] <;> rfl), by repeat (first | (with_reducible first | exact HB.out | apply below_alloc | apply pw_below_drewN | apply below_drew1) | exact HB.out)⟩
                   ·replace c64 := Bool.eq_false_iff.mpr c64
                    subst c64
                    have H1 : (if t497 = true then (if 0 ≤ t504 then (if t504 < (t515.length : Int) then (if 0 ≤ ji32 then (if ji32 < (t505.length : Int) then (if 0 ≤ (rd t505 ji32) then (if (rd t505 ji32) < (t515.length : Int) then ((cohousingref29_Right.f kj55 a0 (rd t515 t504) (rd t515 (rd t505 ji32))).bind fun t533 => (if ji32 < (t499.length : Int) then (if t533 = ((rd_T43 t499 ji32).f2.f0) then (if t504 < (t522.length : Int) then (if (rd t505 ji32) < (t522.length : Int) then ((cohousingref29_Right.f kj55 a0 (rd t522 t504) (rd t522 (rd t505 ji32))).bind fun t538 => (some (t538 == ((rd_T43 t499 ji32).f2.f1)))) else (none)) else (none)) else (some false)) else (none))) else (none)) else (none)) else (none)) else (none)) else (none)) else (none)) else (some false)) = some r := by rw [if_neg (show ¬ (false = true) by decide)] at H; exact H
                    clear H
                    have H := H1
                    clear H1
                    by_cases c65 : t497 = true
                    ·subst c65
                     have H1 : (if 0 ≤ t504 then (if t504 < (t515.length : Int) then (if 0 ≤ ji32 then (if ji32 < (t505.length : Int) then (if 0 ≤ (rd t505 ji32) then (if (rd t505 ji32) < (t515.length : Int) then ((cohousingref29_Right.f kj55 a0 (rd t515 t504) (rd t515 (rd t505 ji32))).bind fun t533 => (if ji32 < (t499.length : Int) then (if t533 = ((rd_T43 t499 ji32).f2.f0) then (if t504 < (t522.length : Int) then (if (rd t505 ji32) < (t522.length : Int) then ((cohousingref29_Right.f kj55 a0 (rd t522 t504) (rd t522 (rd t505 ji32))).bind fun t538 => (some (t538 == ((rd_T43 t499 ji32).f2.f1)))) else (none)) else (none)) else (some false)) else (none))) else (none)) else (none)) else (none)) else (none)) else (none)) else (none)) = some r := by rw [if_pos rfl] at H; exact H
                     clear H
                     have H := H1
                     clear H1
                     by_cases c66 : 0 ≤ t504
                     ·rw [if_pos c66] at H
                      have c66b0 : decide (0 ≤ t504) = true := decide_eq_true c66
                      clear c66
                      by_cases c67 : t504 < (t515.length : Int)
                      ·rw [if_pos c67] at H
                       have c67b0 : decide (t504 < (t515.length : Int)) = true := decide_eq_true c67
                       clear c67
                       by_cases c68 : 0 ≤ ji32
                       ·rw [if_pos c68] at H
                        have c68b0 : decide (0 ≤ ji32) = true := decide_eq_true c68
                        clear c68
                        by_cases c69 : ji32 < (t505.length : Int)
                        ·rw [if_pos c69] at H
                         have c69b0 : decide (ji32 < (t505.length : Int)) = true := decide_eq_true c69
                         clear c69
                         by_cases c70 : 0 ≤ (rd t505 ji32)
                         ·rw [if_pos c70] at H
                          have c70b0 : decide (0 ≤ (rd t505 ji32)) = true := decide_eq_true c70
                          clear c70
                          by_cases c71 : (rd t505 ji32) < (t515.length : Int)
                          ·rw [if_pos c71] at H
                           have c71b0 : decide ((rd t505 ji32) < (t515.length : Int)) = true := decide_eq_true c71
                           clear c71
                           replace H := Option.bind_eq_some_iff.mp H
                           obtain ⟨t533, A720, H⟩ := H
                           replace H : (if ji32 < (t499.length : Int) then (if t533 = ((rd_T43 t499 ji32).f2.f0) then (if t504 < (t522.length : Int) then (if (rd t505 ji32) < (t522.length : Int) then ((cohousingref29_Right.f kj55 a0 (rd t522 t504) (rd t522 (rd t505 ji32))).bind fun t538 => (some (t538 == ((rd_T43 t499 ji32).f2.f1)))) else (none)) else (none)) else (some false)) else (none)) = some r := H
                           have A72 := Aside0.mk A720
                           clear A720
                           by_cases c73 : ji32 < (t499.length : Int)
                           ·rw [if_pos c73] at H
                            have c73b0 : decide (ji32 < (t499.length : Int)) = true := decide_eq_true c73
                            clear c73
                            by_cases c74 : t533 = ((rd_T43 t499 ji32).f2.f0)
                            ·rw [if_pos c74] at H
                             have c74b0 : (t533 == ((rd_T43 t499 ji32).f2.f0)) = true := beq_iff_eq.mpr c74
                             have c74b1 : (t533 != ((rd_T43 t499 ji32).f2.f0)) = false := bne_eq_false_iff_eq.mpr c74
                             clear c74
                             by_cases c75 : t504 < (t522.length : Int)
                             ·rw [if_pos c75] at H
                              have c75b0 : decide (t504 < (t522.length : Int)) = true := decide_eq_true c75
                              clear c75
                              by_cases c76 : (rd t505 ji32) < (t522.length : Int)
                              ·as_aux_lemma =>
                                rw [if_pos c76] at H
                                have c76b0 : decide ((rd t505 ji32) < (t522.length : Int)) = true := decide_eq_true c76
                                clear c76
                                replace H := Option.bind_eq_some_iff.mp H
                                obtain ⟨t538, A770, H⟩ := H
                                replace H : (some (t538 == ((rd_T43 t499 ji32).f2.f1))) = some r := H
                                have A77 := Aside0.mk A770
                                clear A770
                                obtain rfl := Option.some.inj H
                                try go_wp2
                                have n0_ := Aside0.mk (Kd.R_drew HO_12.out)
                                have n1_ := Aside0.mk (Kd.R_drew HO_16.out)
                                have n2_ := Aside0.mk (Kd.R_drew HO_20.out)
                                have n3_ := Aside0.mk (Kd.R_drew HO_22.out)
                                have n4_ := Aside0.mk (below_drew1 HB.out)
                                clear HO_12
                                clear HO_16
                                clear HO_20
                                clear HO_22
                                clear HB
                                have HO_12 := n0_
                                have HO_16 := n1_
                                have HO_20 := n2_
                                have HO_22 := n3_
                                have HB := n4_
                                clear n0_ n1_ n2_ n3_ n4_
                                have p530 : 0 ≤ (t504 : Int) := od_
                                have q530 : t504 < (t515.length : Int) := od_
                                obtain ⟨ad530, e530, hx530_0⟩ := Kd.at_int (Kd.R_reads' HO_20.out).2.2 t504 p530 q530
                                cases e530
                                replace p530 := eq_true p530
                                replace q530 := eq_true q530
                                have p531 : 0 ≤ (ji32 : Int) := od_
                                have q531 : ji32 < (t505.length : Int) := od_
                                obtain ⟨ad531, e531, hx531_0⟩ := Kd.at_int (Kd.R_reads' HO_16.out).2.2 ji32 p531 q531
                                obtain rfl : ad512 = ad531 := (by injection e531)
                                replace p531 := eq_true p531
                                replace q531 := eq_true q531
                                have p532 : 0 ≤ ((rd t505 ji32) : Int) := od_
                                have q532 : (rd t505 ji32) < (t515.length : Int) := od_
                                obtain ⟨ad532, e532, hx532_0⟩ := Kd.at_int (Kd.R_reads' HO_20.out).2.2 (rd t505 ji32) p532 q532
                                obtain rfl : ad530 = ad532 := (by injection e532)
                                replace p532 := eq_true p532
                                replace q532 := eq_true q532
                                have p534 : 0 ≤ (ji32 : Int) := od_
                                have q534 : ji32 < (t499.length : Int) := od_
                                obtain ⟨ad534, e534, hx534_0, hx534_1, hx534_2, hx534_3, hx534_4⟩ := at_T43 (Kd.R_reads' HO_12.out).2.2 ji32 p534 q534
                                cases e534
                                replace p534 := eq_true p534
                                replace q534 := eq_true q534
                                have p535 : 0 ≤ (t504 : Int) := od_
                                have q535 : t504 < (t522.length : Int) := od_
                                obtain ⟨ad535, e535, hx535_0⟩ := Kd.at_int (Kd.R_reads' HO_22.out).2.2 t504 p535 q535
                                cases e535
                                replace p535 := eq_true p535
                                replace q535 := eq_true q535
                                have p536 : 0 ≤ (ji32 : Int) := od_
                                have q536 : ji32 < (t505.length : Int) := od_
                                obtain ⟨ad536, e536, hx536_0⟩ := Kd.at_int (Kd.R_reads' HO_16.out).2.2 ji32 p536 q536
                                obtain rfl : ad512 = ad536 := (by injection e536)
                                replace p536 := eq_true p536
                                replace q536 := eq_true q536
                                have p537 : 0 ≤ ((rd t505 ji32) : Int) := od_
                                have q537 : (rd t505 ji32) < (t522.length : Int) := od_
                                obtain ⟨ad537, e537, hx537_0⟩ := Kd.at_int (Kd.R_reads' HO_22.out).2.2 (rd t505 ji32) p537 q537
                                obtain rfl : ad535 = ad537 := (by injection e537)
                                replace p537 := eq_true p537
                                replace q537 := eq_true q537
                                have p539 : 0 ≤ (ji32 : Int) := od_
                                have q539 : ji32 < (t499.length : Int) := od_
                                obtain ⟨ad539, e539, hx539_0, hx539_1, hx539_2, hx539_3, hx539_4⟩ := at_T43 (Kd.R_reads' HO_12.out).2.2 ji32 p539 q539
                                obtain rfl : ad534 = ad539 := (by injection e539)
                                replace p539 := eq_true p539
                                replace q539 := eq_true q539
                                refine start_ (n := 46) (S := fun w' => w'.cell? (ad530.add (t504).toNat) = some (.int .i64 (rd t515 t504)) ∧ w'.cell? (ad512.add (ji32).toNat) = some (.int .i64 (rd t505 ji32)) ∧ w'.cell? (ad530.add ((rd t505 ji32)).toNat) = some (.int .i64 (rd t515 (rd t505 ji32))) ∧ w'.cell? (ad534.add ((ji32).toNat * 5)) = some (.int .i64 ((rd_T43 t499 ji32).f0)) ∧ w'.cell? ⟨(ad534.add ((ji32).toNat * 5)).block, (ad534.add ((ji32).toNat * 5)).off + 1, none⟩ = some (.int .i64 ((rd_T43 t499 ji32).f1)) ∧ w'.cell? ⟨(ad534.add ((ji32).toNat * 5)).block, (ad534.add ((ji32).toNat * 5)).off + 2, none⟩ = some (.int .i64 ((rd_T43 t499 ji32).f2.f0)) ∧ w'.cell? ⟨(ad534.add ((ji32).toNat * 5)).block, (ad534.add ((ji32).toNat * 5)).off + 3, none⟩ = some (.int .i64 ((rd_T43 t499 ji32).f2.f1)) ∧ w'.cell? ⟨(ad534.add ((ji32).toNat * 5)).block, (ad534.add ((ji32).toNat * 5)).off + 4, none⟩ = some (.bool ((rd_T43 t499 ji32).f3)) ∧ w'.cell? (ad535.add (t504).toNat) = some (.int .i64 (rd t522 t504)) ∧ w'.cell? (ad512.add (ji32).toNat) = some (.int .i64 (rd t505 ji32)) ∧ w'.cell? (ad535.add ((rd t505 ji32)).toNat) = some (.int .i64 (rd t522 (rd t505 ji32))) ∧ w'.cell? (ad534.add ((ji32).toNat * 5)) = some (.int .i64 ((rd_T43 t499 ji32).f0)) ∧ w'.cell? ⟨(ad534.add ((ji32).toNat * 5)).block, (ad534.add ((ji32).toNat * 5)).off + 1, none⟩ = some (.int .i64 ((rd_T43 t499 ji32).f1)) ∧ w'.cell? ⟨(ad534.add ((ji32).toNat * 5)).block, (ad534.add ((ji32).toNat * 5)).off + 2, none⟩ = some (.int .i64 ((rd_T43 t499 ji32).f2.f0)) ∧ w'.cell? ⟨(ad534.add ((ji32).toNat * 5)).block, (ad534.add ((ji32).toNat * 5)).off + 3, none⟩ = some (.int .i64 ((rd_T43 t499 ji32).f2.f1)) ∧ w'.cell? ⟨(ad534.add ((ji32).toNat * 5)).block, (ad534.add ((ji32).toNat * 5)).off + 4, none⟩ = some (.bool ((rd_T43 t499 ji32).f3))) (ds := []) #[n_, n_, n_, n_, n_, n_, n_, n_, n_, n_, n_, n_, n_, n_, n_, n_, n_, n_, n_, n_, n_, n_, n_, n_, n_, n_, n_, n_, n_, n_, n_, n_, n_, n_, n_, n_, n_, n_, n_, n_, n_, n_, n_, n_, n_, n_] (by kernel_rfl) rfl rfl ⟨hx530_0, hx531_0, hx532_0, hx534_0, hx534_1, hx534_2, hx534_3, hx534_4, hx535_0, hx536_0, hx537_0, hx539_0, hx539_1, hx539_2, hx539_3, hx539_4⟩ (fun hHeld => ?_); refine with_tabW cohousinglaw29_ChargesTight.tab21 cohousinglaw29_ChargesTight.bits21 (fun HT_ HW_ => ?_)
                                generalize wc.drew = w78 at HO_12 HO_16 HO_20 HO_22 HB hx530_0 hx531_0 hx532_0 hx534_0 hx534_1 hx534_2 hx534_3 hx534_4 hx535_0 hx536_0 hx537_0 hx539_0 hx539_1 hx539_2 hx539_3 hx539_4 hHeld ⊢
                                refine pu_ 0 171 (w_ 46 1) rfl HT_ ?_
                                refine pu_ 1 172 (w_ 46 3) rfl HT_ ?_
                                refine pu_ 2 173 (w_ 46 7) rfl HT_ ?_
                                refine pu_ 3 174 (w_ 46 15) rfl HT_ ?_
                                refine pu_ 4 175 (w_ 46 31) rfl HT_ ?_
                                refine pu_ 5 176 (w_ 46 63) rfl HT_ ?_
                                refine pu_ 7 178 (w_ 46 191) rfl HT_ ?_
                                refine pu_ 8 179 (w_ 46 447) rfl HT_ ?_
                                refine pu_ 9 180 (w_ 46 959) rfl HT_ ?_
                                refine pu_ 10 181 (w_ 46 1983) rfl HT_ ?_
                                refine pu_ 15 186 (w_ 46 34751) rfl HT_ ?_
                                refine pu_ 16 187 (w_ 46 100287) rfl HT_ ?_
                                refine pu_ 17 188 (w_ 46 231359) rfl HT_ ?_
                                refine pu_ 18 189 (w_ 46 493503) rfl HT_ ?_
                                refine pu_ 19 190 (w_ 46 1017791) rfl HT_ ?_
                                refine ta_ 6 177 (w_ 46 1017855) rfl HT_ HW_ hHeld (by rintro w' ⟨s0, s1, s2, s3, s4, s5, s6, s7, s8, s9, s10, s11, s12, s13, s14, s15⟩; go_simp; with_reducible rfl) ?_
                                refine ta_ 11 182 (w_ 46 1019903) rfl HT_ HW_ hHeld (by rintro w' ⟨s0, s1, s2, s3, s4, s5, s6, s7, s8, s9, s10, s11, s12, s13, s14, s15⟩; go_simp; with_reducible rfl) ?_
                                refine pu_ 12 183 (w_ 46 1023999) rfl HT_ ?_
                                refine ta_ 13 184 (w_ 46 1032191) rfl HT_ HW_ hHeld (by rintro w' ⟨s0, s1, s2, s3, s4, s5, s6, s7, s8, s9, s10, s11, s12, s13, s14, s15⟩; go_simp; with_reducible rfl) ?_
                                refine ta_ 20 191 (w_ 46 2080767) rfl HT_ HW_ hHeld (by rintro w' ⟨s0, s1, s2, s3, s4, s5, s6, s7, s8, s9, s10, s11, s12, s13, s14, s15⟩; go_simp; with_reducible rfl) ?_
                                refine one_ (i := 14) (N := some 185) (w_ 46 2097151) rfl rfl (one_of HT_.out (by kernel_rfl)) (by decide) (fun K hK => ?_)
                                refine goes_ Try.func19 (by kernel_rfl) rfl #[.int .i64 a0, .int .i64 (rd t515 t504), .int .i64 (rd t515 (rd t505 ji32))] (by rfl) rfl rfl (by (try simp only [List.map_toArray, List.map_cons, List.map_nil]); first | done | (simp only [hji32]; rfl) | rfl | (simp only [List.length_drop, List.length_take]; rfl)) ?_
                                with_reducible refine (cohousingref29_Right.calls kj55 a0 (rd t515 t504) (rd t515 (rd t505 ji32)) t533 _ A72.out).mono ?_
                                rintro e w79 ⟨rfl, hb⟩
                                have HS0_ := (hb.cell (World.block_lt_of_cell? _ _ (hHeld.1))).trans (hHeld.1)
                                have HS1_ := (hb.cell (World.block_lt_of_cell? _ _ (hHeld.2.1))).trans (hHeld.2.1)
                                have HS2_ := (hb.cell (World.block_lt_of_cell? _ _ (hHeld.2.2.1))).trans (hHeld.2.2.1)
                                have HS3_ := (hb.cell (World.block_lt_of_cell? _ _ (hHeld.2.2.2.1))).trans (hHeld.2.2.2.1)
                                have HS4_ := (hb.cell (World.block_lt_of_cell? _ _ (hHeld.2.2.2.2.1))).trans (hHeld.2.2.2.2.1)
                                have HS5_ := (hb.cell (World.block_lt_of_cell? _ _ (hHeld.2.2.2.2.2.1))).trans (hHeld.2.2.2.2.2.1)
                                have HS6_ := (hb.cell (World.block_lt_of_cell? _ _ (hHeld.2.2.2.2.2.2.1))).trans (hHeld.2.2.2.2.2.2.1)
                                have HS7_ := (hb.cell (World.block_lt_of_cell? _ _ (hHeld.2.2.2.2.2.2.2.1))).trans (hHeld.2.2.2.2.2.2.2.1)
                                have HS8_ := (hb.cell (World.block_lt_of_cell? _ _ (hHeld.2.2.2.2.2.2.2.2.1))).trans (hHeld.2.2.2.2.2.2.2.2.1)
                                have HS9_ := (hb.cell (World.block_lt_of_cell? _ _ (hHeld.2.2.2.2.2.2.2.2.2.1))).trans (hHeld.2.2.2.2.2.2.2.2.2.1)
                                have HS10_ := (hb.cell (World.block_lt_of_cell? _ _ (hHeld.2.2.2.2.2.2.2.2.2.2.1))).trans (hHeld.2.2.2.2.2.2.2.2.2.2.1)
                                have HS11_ := (hb.cell (World.block_lt_of_cell? _ _ (hHeld.2.2.2.2.2.2.2.2.2.2.2.1))).trans (hHeld.2.2.2.2.2.2.2.2.2.2.2.1)
                                have HS12_ := (hb.cell (World.block_lt_of_cell? _ _ (hHeld.2.2.2.2.2.2.2.2.2.2.2.2.1))).trans (hHeld.2.2.2.2.2.2.2.2.2.2.2.2.1)
                                have HS13_ := (hb.cell (World.block_lt_of_cell? _ _ (hHeld.2.2.2.2.2.2.2.2.2.2.2.2.2.1))).trans (hHeld.2.2.2.2.2.2.2.2.2.2.2.2.2.1)
                                have HS14_ := (hb.cell (World.block_lt_of_cell? _ _ (hHeld.2.2.2.2.2.2.2.2.2.2.2.2.2.2.1))).trans (hHeld.2.2.2.2.2.2.2.2.2.2.2.2.2.2.1)
                                have HS15_ := (hb.cell (World.block_lt_of_cell? _ _ (hHeld.2.2.2.2.2.2.2.2.2.2.2.2.2.2.2))).trans (hHeld.2.2.2.2.2.2.2.2.2.2.2.2.2.2.2)
                                refine ⟨_, rfl, ?_⟩
                                have n0_ := Aside0.mk (Kd.R_below (rr_ HO_12) hb)
                                have n1_ := Aside0.mk (Kd.R_below (rr_ HO_16) hb)
                                have n2_ := Aside0.mk (Kd.R_below (rr_ HO_20) hb)
                                have n3_ := Aside0.mk (Kd.R_below (rr_ HO_22) hb)
                                have n4_ := Aside0.mk (below_step (bb_ HB) hb)
                                clear HO_12
                                clear HO_16
                                clear HO_20
                                clear HO_22
                                clear HB
                                have HO_12 := n0_
                                have HO_16 := n1_
                                have HO_20 := n2_
                                have HO_22 := n3_
                                have HB := n4_
                                clear n0_ n1_ n2_ n3_ n4_
                                (try clear hb)
                                (try clear hb2)
                                (try clear hk)
                                (try clear hi)
                                refine hK.out _ _ ⟨HS0_, HS1_, HS2_, HS3_, HS4_, HS5_, HS6_, HS7_, HS8_, HS9_, HS10_, HS11_, HS12_, HS13_, HS14_, HS15_⟩ (fun hHeld => ?_)
                                clear hK K
                                refine norm_ (a' := ?_) ?_ ?_
                                rotate_left
                                ·show Act.put _ (some 185) _ = _
                                 simp only [Act.put, sI_, s0_, sS_, i64_w, i32_w]
                                 rfl
                                refine pu_ 21 192 (w_ 46 4194303) rfl HT_ ?_
                                refine pu_ 22 193 (w_ 46 8388607) rfl HT_ ?_
                                refine pu_ 23 194 (w_ 46 16777215) rfl HT_ ?_
                                refine pu_ 24 195 (w_ 46 33554431) rfl HT_ ?_
                                refine pu_ 25 196 (w_ 46 67108863) rfl HT_ ?_
                                refine pu_ 26 197 (w_ 46 134217727) rfl HT_ ?_
                                refine pu_ 27 198 (w_ 46 268435455) rfl HT_ ?_
                                refine pu_ 29 200 (w_ 46 805306367) rfl HT_ ?_
                                refine pu_ 30 201 (w_ 46 1879048191) rfl HT_ ?_
                                refine pu_ 31 202 (w_ 46 4026531839) rfl HT_ ?_
                                refine pu_ 32 203 (w_ 46 8321499135) rfl HT_ ?_
                                refine pu_ 37 208 (w_ 46 145760452607) rfl HT_ ?_
                                refine pu_ 38 209 (w_ 46 420638359551) rfl HT_ ?_
                                refine pu_ 39 210 (w_ 46 970394173439) rfl HT_ ?_
                                refine pu_ 40 211 (w_ 46 2069905801215) rfl HT_ ?_
                                refine pu_ 41 212 (w_ 46 4268929056767) rfl HT_ ?_
                                refine ta_ 28 199 (w_ 46 4269197492223) rfl HT_ HW_ hHeld (by rintro w' ⟨s0, s1, s2, s3, s4, s5, s6, s7, s8, s9, s10, s11, s12, s13, s14, s15⟩; go_simp; with_reducible rfl) ?_
                                refine ta_ 33 204 (w_ 46 4277787426815) rfl HT_ HW_ hHeld (by rintro w' ⟨s0, s1, s2, s3, s4, s5, s6, s7, s8, s9, s10, s11, s12, s13, s14, s15⟩; go_simp; with_reducible rfl) ?_
                                refine pu_ 34 205 (w_ 46 4294967295999) rfl HT_ ?_
                                refine ta_ 35 206 (w_ 46 4329327034367) rfl HT_ HW_ hHeld (by rintro w' ⟨s0, s1, s2, s3, s4, s5, s6, s7, s8, s9, s10, s11, s12, s13, s14, s15⟩; go_simp; with_reducible rfl) ?_
                                refine ta_ 42 213 (w_ 46 8727373545471) rfl HT_ HW_ hHeld (by rintro w' ⟨s0, s1, s2, s3, s4, s5, s6, s7, s8, s9, s10, s11, s12, s13, s14, s15⟩; go_simp; with_reducible rfl) ?_
                                refine one_ (i := 36) (N := some 207) (w_ 46 8796093022207) rfl rfl (one_of HT_.out (by kernel_rfl)) (by decide) (fun K hK => ?_)
                                refine goes_ Try.func19 (by kernel_rfl) rfl #[.int .i64 a0, .int .i64 (rd t522 t504), .int .i64 (rd t522 (rd t505 ji32))] (by rfl) rfl rfl (by (try simp only [List.map_toArray, List.map_cons, List.map_nil]); first | done | (simp only [hji32]; rfl) | rfl | (simp only [List.length_drop, List.length_take]; rfl)) ?_
                                with_reducible refine (cohousingref29_Right.calls kj55 a0 (rd t522 t504) (rd t522 (rd t505 ji32)) t538 _ A77.out).mono ?_
                                rintro e w80 ⟨rfl, hb⟩
                                have HS0_ := (hb.cell (World.block_lt_of_cell? _ _ (hHeld.1))).trans (hHeld.1)
                                have HS1_ := (hb.cell (World.block_lt_of_cell? _ _ (hHeld.2.1))).trans (hHeld.2.1)
                                have HS2_ := (hb.cell (World.block_lt_of_cell? _ _ (hHeld.2.2.1))).trans (hHeld.2.2.1)
                                have HS3_ := (hb.cell (World.block_lt_of_cell? _ _ (hHeld.2.2.2.1))).trans (hHeld.2.2.2.1)
                                have HS4_ := (hb.cell (World.block_lt_of_cell? _ _ (hHeld.2.2.2.2.1))).trans (hHeld.2.2.2.2.1)
                                have HS5_ := (hb.cell (World.block_lt_of_cell? _ _ (hHeld.2.2.2.2.2.1))).trans (hHeld.2.2.2.2.2.1)
                                have HS6_ := (hb.cell (World.block_lt_of_cell? _ _ (hHeld.2.2.2.2.2.2.1))).trans (hHeld.2.2.2.2.2.2.1)
                                have HS7_ := (hb.cell (World.block_lt_of_cell? _ _ (hHeld.2.2.2.2.2.2.2.1))).trans (hHeld.2.2.2.2.2.2.2.1)
                                have HS8_ := (hb.cell (World.block_lt_of_cell? _ _ (hHeld.2.2.2.2.2.2.2.2.1))).trans (hHeld.2.2.2.2.2.2.2.2.1)
                                have HS9_ := (hb.cell (World.block_lt_of_cell? _ _ (hHeld.2.2.2.2.2.2.2.2.2.1))).trans (hHeld.2.2.2.2.2.2.2.2.2.1)
                                have HS10_ := (hb.cell (World.block_lt_of_cell? _ _ (hHeld.2.2.2.2.2.2.2.2.2.2.1))).trans (hHeld.2.2.2.2.2.2.2.2.2.2.1)
                                have HS11_ := (hb.cell (World.block_lt_of_cell? _ _ (hHeld.2.2.2.2.2.2.2.2.2.2.2.1))).trans (hHeld.2.2.2.2.2.2.2.2.2.2.2.1)
                                have HS12_ := (hb.cell (World.block_lt_of_cell? _ _ (hHeld.2.2.2.2.2.2.2.2.2.2.2.2.1))).trans (hHeld.2.2.2.2.2.2.2.2.2.2.2.2.1)
                                have HS13_ := (hb.cell (World.block_lt_of_cell? _ _ (hHeld.2.2.2.2.2.2.2.2.2.2.2.2.2.1))).trans (hHeld.2.2.2.2.2.2.2.2.2.2.2.2.2.1)
                                have HS14_ := (hb.cell (World.block_lt_of_cell? _ _ (hHeld.2.2.2.2.2.2.2.2.2.2.2.2.2.2.1))).trans (hHeld.2.2.2.2.2.2.2.2.2.2.2.2.2.2.1)
                                have HS15_ := (hb.cell (World.block_lt_of_cell? _ _ (hHeld.2.2.2.2.2.2.2.2.2.2.2.2.2.2.2))).trans (hHeld.2.2.2.2.2.2.2.2.2.2.2.2.2.2.2)
                                refine ⟨_, rfl, ?_⟩
                                have n0_ := Aside0.mk (Kd.R_below (rr_ HO_12) hb)
                                have n1_ := Aside0.mk (Kd.R_below (rr_ HO_16) hb)
                                have n2_ := Aside0.mk (Kd.R_below (rr_ HO_20) hb)
                                have n3_ := Aside0.mk (Kd.R_below (rr_ HO_22) hb)
                                have n4_ := Aside0.mk (below_step (bb_ HB) hb)
                                clear HO_12
                                clear HO_16
                                clear HO_20
                                clear HO_22
                                clear HB
                                have HO_12 := n0_
                                have HO_16 := n1_
                                have HO_20 := n2_
                                have HO_22 := n3_
                                have HB := n4_
                                clear n0_ n1_ n2_ n3_ n4_
                                (try clear hb)
                                (try clear hb2)
                                (try clear hk)
                                (try clear hi)
                                refine hK.out _ _ ⟨HS0_, HS1_, HS2_, HS3_, HS4_, HS5_, HS6_, HS7_, HS8_, HS9_, HS10_, HS11_, HS12_, HS13_, HS14_, HS15_⟩ (fun hHeld => ?_)
                                clear hK K
                                refine norm_ (a' := ?_) ?_ ?_
                                rotate_left
                                ·show Act.put _ (some 207) _ = _
                                 simp only [Act.put, sI_, s0_, sS_, i64_w, i32_w]
                                 rfl
                                refine pu_ 43 214 (w_ 46 17592186044415) rfl HT_ ?_
                                refine pu_ 44 215 (w_ 46 35184372088831) rfl HT_ ?_
                                refine pu_ 45 10 (w_ 46 70368744177663) rfl HT_ ?_
                                refine done_ (done_of HT_.out (by kernel_rfl)) ?_
                                try go_wp2
                                go_ret
                                exact ⟨by first | rfl | (simp [errW_none, errW_some] <;> rfl) | (simp only [← hji32]; first | rfl | (simp [errW_none, errW_some] <;> rfl)) | (simp [*, errW_none, errW_some] <;> rfl), by repeat (first | (with_reducible first | exact HB.out | apply below_alloc | apply pw_below_drewN | apply below_drew1) | exact HB.out)⟩
                              ·rw [if_neg c76] at H
                               exact absurd H (by simp)
                             ·rw [if_neg c75] at H
                              exact absurd H (by simp)
                            ·as_aux_lemma =>
                              rw [if_neg c74] at H
                              have c74b0 : (t533 == ((rd_T43 t499 ji32).f2.f0)) = false := beq_eq_false_iff_ne.mpr c74
                              have c74b1 : (t533 != ((rd_T43 t499 ji32).f2.f0)) = true := bne_iff_ne.mpr c74
                              obtain rfl := Option.some.inj H
                              try go_wp2
                              have n0_ := Aside0.mk (Kd.R_drew HO_12.out)
                              have n1_ := Aside0.mk (Kd.R_drew HO_16.out)
                              have n2_ := Aside0.mk (Kd.R_drew HO_20.out)
                              have n3_ := Aside0.mk (Kd.R_drew HO_22.out)
                              have n4_ := Aside0.mk (below_drew1 HB.out)
                              clear HO_12
                              clear HO_16
                              clear HO_20
                              clear HO_22
                              clear HB
                              have HO_12 := n0_
                              have HO_16 := n1_
                              have HO_20 := n2_
                              have HO_22 := n3_
                              have HB := n4_
                              clear n0_ n1_ n2_ n3_ n4_
                              have p530 : 0 ≤ (t504 : Int) := od_
                              have q530 : t504 < (t515.length : Int) := od_
                              obtain ⟨ad530, e530, hx530_0⟩ := Kd.at_int (Kd.R_reads' HO_20.out).2.2 t504 p530 q530
                              cases e530
                              replace p530 := eq_true p530
                              replace q530 := eq_true q530
                              have p531 : 0 ≤ (ji32 : Int) := od_
                              have q531 : ji32 < (t505.length : Int) := od_
                              obtain ⟨ad531, e531, hx531_0⟩ := Kd.at_int (Kd.R_reads' HO_16.out).2.2 ji32 p531 q531
                              obtain rfl : ad512 = ad531 := (by injection e531)
                              replace p531 := eq_true p531
                              replace q531 := eq_true q531
                              have p532 : 0 ≤ ((rd t505 ji32) : Int) := od_
                              have q532 : (rd t505 ji32) < (t515.length : Int) := od_
                              obtain ⟨ad532, e532, hx532_0⟩ := Kd.at_int (Kd.R_reads' HO_20.out).2.2 (rd t505 ji32) p532 q532
                              obtain rfl : ad530 = ad532 := (by injection e532)
                              replace p532 := eq_true p532
                              replace q532 := eq_true q532
                              have p534 : 0 ≤ (ji32 : Int) := od_
                              have q534 : ji32 < (t499.length : Int) := od_
                              obtain ⟨ad534, e534, hx534_0, hx534_1, hx534_2, hx534_3, hx534_4⟩ := at_T43 (Kd.R_reads' HO_12.out).2.2 ji32 p534 q534
                              cases e534
                              replace p534 := eq_true p534
                              replace q534 := eq_true q534
                              refine start_ (n := 46) (S := fun w' => w'.cell? (ad530.add (t504).toNat) = some (.int .i64 (rd t515 t504)) ∧ w'.cell? (ad512.add (ji32).toNat) = some (.int .i64 (rd t505 ji32)) ∧ w'.cell? (ad530.add ((rd t505 ji32)).toNat) = some (.int .i64 (rd t515 (rd t505 ji32))) ∧ w'.cell? (ad534.add ((ji32).toNat * 5)) = some (.int .i64 ((rd_T43 t499 ji32).f0)) ∧ w'.cell? ⟨(ad534.add ((ji32).toNat * 5)).block, (ad534.add ((ji32).toNat * 5)).off + 1, none⟩ = some (.int .i64 ((rd_T43 t499 ji32).f1)) ∧ w'.cell? ⟨(ad534.add ((ji32).toNat * 5)).block, (ad534.add ((ji32).toNat * 5)).off + 2, none⟩ = some (.int .i64 ((rd_T43 t499 ji32).f2.f0)) ∧ w'.cell? ⟨(ad534.add ((ji32).toNat * 5)).block, (ad534.add ((ji32).toNat * 5)).off + 3, none⟩ = some (.int .i64 ((rd_T43 t499 ji32).f2.f1)) ∧ w'.cell? ⟨(ad534.add ((ji32).toNat * 5)).block, (ad534.add ((ji32).toNat * 5)).off + 4, none⟩ = some (.bool ((rd_T43 t499 ji32).f3))) (ds := []) #[n_, n_, n_, n_, n_, n_, n_, n_, n_, n_, n_, n_, n_, n_, n_, n_, n_, n_, n_, n_, n_, n_, n_, n_, n_, n_, n_, n_, n_, n_, n_, n_, n_, n_, n_, n_, n_, n_, n_, n_, n_, n_, n_, n_, n_, n_] (by kernel_rfl) rfl rfl ⟨hx530_0, hx531_0, hx532_0, hx534_0, hx534_1, hx534_2, hx534_3, hx534_4⟩ (fun hHeld => ?_); refine with_tabW cohousinglaw29_ChargesTight.tab21 cohousinglaw29_ChargesTight.bits21 (fun HT_ HW_ => ?_)
                              generalize wc.drew = w81 at HO_12 HO_16 HO_20 HO_22 HB hx530_0 hx531_0 hx532_0 hx534_0 hx534_1 hx534_2 hx534_3 hx534_4 hHeld ⊢
                              refine pu_ 0 171 (w_ 46 1) rfl HT_ ?_
                              refine pu_ 1 172 (w_ 46 3) rfl HT_ ?_
                              refine pu_ 2 173 (w_ 46 7) rfl HT_ ?_
                              refine pu_ 3 174 (w_ 46 15) rfl HT_ ?_
                              refine pu_ 4 175 (w_ 46 31) rfl HT_ ?_
                              refine pu_ 5 176 (w_ 46 63) rfl HT_ ?_
                              refine pu_ 7 178 (w_ 46 191) rfl HT_ ?_
                              refine pu_ 8 179 (w_ 46 447) rfl HT_ ?_
                              refine pu_ 9 180 (w_ 46 959) rfl HT_ ?_
                              refine pu_ 10 181 (w_ 46 1983) rfl HT_ ?_
                              refine pu_ 15 186 (w_ 46 34751) rfl HT_ ?_
                              refine pu_ 16 187 (w_ 46 100287) rfl HT_ ?_
                              refine pu_ 17 188 (w_ 46 231359) rfl HT_ ?_
                              refine pu_ 18 189 (w_ 46 493503) rfl HT_ ?_
                              refine pu_ 19 190 (w_ 46 1017791) rfl HT_ ?_
                              refine ta_ 6 177 (w_ 46 1017855) rfl HT_ HW_ hHeld (by rintro w' ⟨s0, s1, s2, s3, s4, s5, s6, s7⟩; go_simp; with_reducible rfl) ?_
                              refine ta_ 11 182 (w_ 46 1019903) rfl HT_ HW_ hHeld (by rintro w' ⟨s0, s1, s2, s3, s4, s5, s6, s7⟩; go_simp; with_reducible rfl) ?_
                              refine pu_ 12 183 (w_ 46 1023999) rfl HT_ ?_
                              refine ta_ 13 184 (w_ 46 1032191) rfl HT_ HW_ hHeld (by rintro w' ⟨s0, s1, s2, s3, s4, s5, s6, s7⟩; go_simp; with_reducible rfl) ?_
                              refine ta_ 20 191 (w_ 46 2080767) rfl HT_ HW_ hHeld (by rintro w' ⟨s0, s1, s2, s3, s4, s5, s6, s7⟩; go_simp; with_reducible rfl) ?_
                              refine one_ (i := 14) (N := some 185) (w_ 46 2097151) rfl rfl (one_of HT_.out (by kernel_rfl)) (by decide) (fun K hK => ?_)
                              refine goes_ Try.func19 (by kernel_rfl) rfl #[.int .i64 a0, .int .i64 (rd t515 t504), .int .i64 (rd t515 (rd t505 ji32))] (by rfl) rfl rfl (by (try simp only [List.map_toArray, List.map_cons, List.map_nil]); first | done | (simp only [hji32]; rfl) | rfl | (simp only [List.length_drop, List.length_take]; rfl)) ?_
                              with_reducible refine (cohousingref29_Right.calls kj55 a0 (rd t515 t504) (rd t515 (rd t505 ji32)) t533 _ A72.out).mono ?_
                              rintro e w82 ⟨rfl, hb⟩
                              have HS0_ := (hb.cell (World.block_lt_of_cell? _ _ (hHeld.1))).trans (hHeld.1)
                              have HS1_ := (hb.cell (World.block_lt_of_cell? _ _ (hHeld.2.1))).trans (hHeld.2.1)
                              have HS2_ := (hb.cell (World.block_lt_of_cell? _ _ (hHeld.2.2.1))).trans (hHeld.2.2.1)
                              have HS3_ := (hb.cell (World.block_lt_of_cell? _ _ (hHeld.2.2.2.1))).trans (hHeld.2.2.2.1)
                              have HS4_ := (hb.cell (World.block_lt_of_cell? _ _ (hHeld.2.2.2.2.1))).trans (hHeld.2.2.2.2.1)
                              have HS5_ := (hb.cell (World.block_lt_of_cell? _ _ (hHeld.2.2.2.2.2.1))).trans (hHeld.2.2.2.2.2.1)
                              have HS6_ := (hb.cell (World.block_lt_of_cell? _ _ (hHeld.2.2.2.2.2.2.1))).trans (hHeld.2.2.2.2.2.2.1)
                              have HS7_ := (hb.cell (World.block_lt_of_cell? _ _ (hHeld.2.2.2.2.2.2.2))).trans (hHeld.2.2.2.2.2.2.2)
                              refine ⟨_, rfl, ?_⟩
                              have n0_ := Aside0.mk (Kd.R_below (rr_ HO_12) hb)
                              have n1_ := Aside0.mk (Kd.R_below (rr_ HO_16) hb)
                              have n2_ := Aside0.mk (Kd.R_below (rr_ HO_20) hb)
                              have n3_ := Aside0.mk (Kd.R_below (rr_ HO_22) hb)
                              have n4_ := Aside0.mk (below_step (bb_ HB) hb)
                              clear HO_12
                              clear HO_16
                              clear HO_20
                              clear HO_22
                              clear HB
                              have HO_12 := n0_
                              have HO_16 := n1_
                              have HO_20 := n2_
                              have HO_22 := n3_
                              have HB := n4_
                              clear n0_ n1_ n2_ n3_ n4_
                              (try clear hb)
                              (try clear hb2)
                              (try clear hk)
                              (try clear hi)
                              refine hK.out _ _ ⟨HS0_, HS1_, HS2_, HS3_, HS4_, HS5_, HS6_, HS7_⟩ (fun hHeld => ?_)
                              clear hK K
                              refine norm_ (a' := ?_) ?_ ?_
                              rotate_left
                              ·show Act.put _ (some 185) _ = _
                               simp only [Act.put, sI_, s0_, sS_, i64_w, i32_w]
                               rfl
                              refine pu_ 21 192 (w_ 46 4194303) rfl HT_ ?_
                              refine pu_ 22 193 (w_ 46 8388607) rfl HT_ ?_
                              refine pu_ 23 194 (w_ 46 16777215) rfl HT_ ?_
                              refine pn_ 24 195 (w_ 46 33554431) rfl HT_ ?_
                              refine pn_ 25 196 (w_ 46 67108863) rfl HT_ ?_
                              refine pn_ 26 197 (w_ 46 134217727) rfl HT_ ?_
                              refine pn_ 27 198 (w_ 46 268435455) rfl HT_ ?_
                              refine pn_ 28 199 (w_ 46 536870911) rfl HT_ ?_
                              refine pn_ 29 200 (w_ 46 1073741823) rfl HT_ ?_
                              refine pn_ 30 201 (w_ 46 2147483647) rfl HT_ ?_
                              refine pn_ 31 202 (w_ 46 4294967295) rfl HT_ ?_
                              refine pn_ 32 203 (w_ 46 8589934591) rfl HT_ ?_
                              refine pn_ 33 204 (w_ 46 17179869183) rfl HT_ ?_
                              refine pn_ 34 205 (w_ 46 34359738367) rfl HT_ ?_
                              refine pn_ 35 206 (w_ 46 68719476735) rfl HT_ ?_
                              refine pn_ 36 207 (w_ 46 137438953471) rfl HT_ ?_
                              refine pn_ 37 208 (w_ 46 274877906943) rfl HT_ ?_
                              refine pn_ 38 209 (w_ 46 549755813887) rfl HT_ ?_
                              refine pn_ 39 210 (w_ 46 1099511627775) rfl HT_ ?_
                              refine pn_ 40 211 (w_ 46 2199023255551) rfl HT_ ?_
                              refine pn_ 41 212 (w_ 46 4398046511103) rfl HT_ ?_
                              refine pn_ 42 213 (w_ 46 8796093022207) rfl HT_ ?_
                              refine pn_ 43 214 (w_ 46 17592186044415) rfl HT_ ?_
                              refine pu_ 44 215 (w_ 46 35184372088831) rfl HT_ ?_
                              refine pu_ 45 10 (w_ 46 70368744177663) rfl HT_ ?_
                              refine done_ (done_of HT_.out (by kernel_rfl)) ?_
                              try go_wp2
                              go_ret
                              exact ⟨by first | rfl | (simp [errW_none, errW_some] <;> rfl) | (simp only [← hji32]; first | rfl | (simp [errW_none, errW_some] <;> rfl)) | (simp [*, errW_none, errW_some] <;> rfl), by repeat (first | (with_reducible first | exact HB.out | apply below_alloc | apply pw_below_drewN | apply below_drew1) | exact HB.out)⟩
                           ·rw [if_neg c73] at H
                            exact absurd H (by simp)
                          ·rw [if_neg c71] at H
                           exact absurd H (by simp)
                         ·rw [if_neg c70] at H
                          exact absurd H (by simp)
                        ·rw [if_neg c69] at H
                         exact absurd H (by simp)
                       ·rw [if_neg c68] at H
                        exact absurd H (by simp)
                      ·rw [if_neg c67] at H
                       exact absurd H (by simp)
                     ·rw [if_neg c66] at H
                      exact absurd H (by simp)
                    ·as_aux_lemma =>
                      replace c65 := Bool.eq_false_iff.mpr c65
                      subst c65
                      have H1 : (some false) = some r := by rw [if_neg (show ¬ (false = true) by decide)] at H; exact H
                      clear H
                      have H := H1
                      clear H1
                      obtain rfl := Option.some.inj H
                      try go_wp2
                      have n0_ := Aside0.mk (Kd.R_drew HO_12.out)
                      have n1_ := Aside0.mk (Kd.R_drew HO_16.out)
                      have n2_ := Aside0.mk (Kd.R_drew HO_20.out)
                      have n3_ := Aside0.mk (Kd.R_drew HO_22.out)
                      have n4_ := Aside0.mk (below_drew1 HB.out)
                      clear HO_12
                      clear HO_16
                      clear HO_20
                      clear HO_22
                      clear HB
                      have HO_12 := n0_
                      have HO_16 := n1_
                      have HO_20 := n2_
                      have HO_22 := n3_
                      have HB := n4_
                      clear n0_ n1_ n2_ n3_ n4_
                      refine start_ (n := 46) (S := fun w' => True) (ds := []) #[n_, n_, n_, n_, n_, n_, n_, n_, n_, n_, n_, n_, n_, n_, n_, n_, n_, n_, n_, n_, n_, n_, n_, n_, n_, n_, n_, n_, n_, n_, n_, n_, n_, n_, n_, n_, n_, n_, n_, n_, n_, n_, n_, n_, n_, n_] (by kernel_rfl) rfl rfl trivial (fun hHeld => ?_); refine with_tabW cohousinglaw29_ChargesTight.tab21 cohousinglaw29_ChargesTight.bits21 (fun HT_ HW_ => ?_)
                      generalize wc.drew = w83 at HO_12 HO_16 HO_20 HO_22 HB hHeld ⊢
                      refine pu_ 0 171 (w_ 46 1) rfl HT_ ?_
                      refine pu_ 1 172 (w_ 46 3) rfl HT_ ?_
                      refine pn_ 2 173 (w_ 46 7) rfl HT_ ?_
                      refine pn_ 3 174 (w_ 46 15) rfl HT_ ?_
                      refine pn_ 4 175 (w_ 46 31) rfl HT_ ?_
                      refine pn_ 5 176 (w_ 46 63) rfl HT_ ?_
                      refine pn_ 6 177 (w_ 46 127) rfl HT_ ?_
                      refine pn_ 7 178 (w_ 46 255) rfl HT_ ?_
                      refine pn_ 8 179 (w_ 46 511) rfl HT_ ?_
                      refine pn_ 9 180 (w_ 46 1023) rfl HT_ ?_
                      refine pn_ 10 181 (w_ 46 2047) rfl HT_ ?_
                      refine pn_ 11 182 (w_ 46 4095) rfl HT_ ?_
                      refine pn_ 12 183 (w_ 46 8191) rfl HT_ ?_
                      refine pn_ 13 184 (w_ 46 16383) rfl HT_ ?_
                      refine pn_ 14 185 (w_ 46 32767) rfl HT_ ?_
                      refine pn_ 15 186 (w_ 46 65535) rfl HT_ ?_
                      refine pn_ 16 187 (w_ 46 131071) rfl HT_ ?_
                      refine pn_ 17 188 (w_ 46 262143) rfl HT_ ?_
                      refine pn_ 18 189 (w_ 46 524287) rfl HT_ ?_
                      refine pn_ 19 190 (w_ 46 1048575) rfl HT_ ?_
                      refine pn_ 20 191 (w_ 46 2097151) rfl HT_ ?_
                      refine pn_ 21 192 (w_ 46 4194303) rfl HT_ ?_
                      refine pu_ 22 193 (w_ 46 8388607) rfl HT_ ?_
                      refine pu_ 23 194 (w_ 46 16777215) rfl HT_ ?_
                      refine pn_ 24 195 (w_ 46 33554431) rfl HT_ ?_
                      refine pn_ 25 196 (w_ 46 67108863) rfl HT_ ?_
                      refine pn_ 26 197 (w_ 46 134217727) rfl HT_ ?_
                      refine pn_ 27 198 (w_ 46 268435455) rfl HT_ ?_
                      refine pn_ 28 199 (w_ 46 536870911) rfl HT_ ?_
                      refine pn_ 29 200 (w_ 46 1073741823) rfl HT_ ?_
                      refine pn_ 30 201 (w_ 46 2147483647) rfl HT_ ?_
                      refine pn_ 31 202 (w_ 46 4294967295) rfl HT_ ?_
                      refine pn_ 32 203 (w_ 46 8589934591) rfl HT_ ?_
                      refine pn_ 33 204 (w_ 46 17179869183) rfl HT_ ?_
                      refine pn_ 34 205 (w_ 46 34359738367) rfl HT_ ?_
                      refine pn_ 35 206 (w_ 46 68719476735) rfl HT_ ?_
                      refine pn_ 36 207 (w_ 46 137438953471) rfl HT_ ?_
                      refine pn_ 37 208 (w_ 46 274877906943) rfl HT_ ?_
                      refine pn_ 38 209 (w_ 46 549755813887) rfl HT_ ?_
                      refine pn_ 39 210 (w_ 46 1099511627775) rfl HT_ ?_
                      refine pn_ 40 211 (w_ 46 2199023255551) rfl HT_ ?_
                      refine pn_ 41 212 (w_ 46 4398046511103) rfl HT_ ?_
                      refine pn_ 42 213 (w_ 46 8796093022207) rfl HT_ ?_
                      refine pn_ 43 214 (w_ 46 17592186044415) rfl HT_ ?_
                      refine pu_ 44 215 (w_ 46 35184372088831) rfl HT_ ?_
                      refine pu_ 45 10 (w_ 46 70368744177663) rfl HT_ ?_
                      refine done_ (done_of HT_.out (by kernel_rfl)) ?_
                      try go_wp2
                      go_ret
                      exact ⟨by first | rfl | (simp [errW_none, errW_some] <;> rfl) | (simp only [← hji32]; first | rfl | (simp [errW_none, errW_some] <;> rfl)) | (simp [*, errW_none, errW_some] <;> rfl), by repeat (first | (with_reducible first | exact HB.out | apply below_alloc | apply pw_below_drewN | apply below_drew1) | exact HB.out)⟩
            ·rw [if_neg c36] at H
             exact absurd H (by simp)
           ·rw [if_neg c35] at H
            exact absurd H (by simp)
          ·rw [if_neg c34] at H
           exact absurd H (by simp)
         ·rw [if_neg c33] at H
          exact absurd H (by simp)
 ·replace c8 := Bool.eq_false_iff.mpr c8
  subst c8
  have H1 : (some t497) = some r := by rw [if_neg (show ¬ (false = true) by decide)] at H; exact H
  clear H
  have H := H1
  clear H1
  obtain rfl := Option.some.inj H
  go_enter Try.func10, Try.ntmps10
  go_wp2_with (first | ((with_reducible refine gate_callee (f := 20) rfl ?_); refine gl_ (some 28) Try.func20 #[] ?_; (with_reducible refine (cohousinglaw29_head.calls k  t497 _ A6.out).mono ?_); rintro e w84 ⟨rfl, hb⟩; refine ⟨_, rfl, ?_⟩; have n0_ := Aside0.mk (below_step (bb_ HB) hb); clear HB; have HB := n0_; clear n0_; (try clear hb); (try clear hb2); (try clear hk); (try clear hi)) | ((with_reducible refine gate_callee (f := 21) rfl ?_); refine gl_ (some 32) Try.func21 #[.slice A1 l1.length c1, .slice A2 l2.length c2, .slice A3 l3.length c3] ?_; (with_reducible refine (cohousinglaw29_few.calls _ _ l1 _ _ l2 _ _ l3 false _ ?side1 ?side2 ?side3 ?side4 ?side5 ?side6 A7.out).mono ?_); (case side1 => exact cc_ ((Kd.C_below HR1.out HB.out))); (case side2 => exact HC1.out); (case side3 => exact cc_ ((Kd.C_below HR2.out HB.out))); (case side4 => exact HC2.out); (case side5 => exact cc_ ((Kd.C_below HR3.out HB.out))); (case side6 => exact HC3.out); rintro e w' ⟨rfl, ⟨nd, rfl⟩⟩; refine ⟨_, rfl, ?_⟩))
  go_ret
  exact ⟨ew_, by repeat (first | (with_reducible first | exact HB.out | apply below_alloc | apply pw_below_drewN | apply below_drew1) | exact HB.out)⟩
end
end Go.Proofs.Ytbgchacafglcpaa.P
end
section
namespace Go.Proofs.Ytbgchacafglcpaa.P
open Go.RowKit Go.Proofs.YtbgchacafglcpaaW.PrintWords Go.Proofs.YtbgchacafglcpaaW.PrintLast Go.Proofs.YtbgchacafglcpaaW.PrintMore Go.Proofs.YtbgchacafglcpaaH Go.Proofs.FlowTree
theorem Ev.of_mono {α : Type} {f : Nat → Option α} {r : α} (k0 : Nat) (h0 : f k0 = some r) (h : ∀ k, LeO (f k) (f (k + 1))) : Ev f r := by
 refine ⟨k0, fun k hk => ?_⟩
 obtain ⟨d, rfl⟩ : ∃ d, k = k0 + d := ⟨k - k0, by omega⟩
 induction d with
 | zero => exact h0
 | succ d ih => exact h _ _ (ih (by omega))
theorem head_ev : Ev (fun k => cohousinglaw29_head.f k) true := Ev.of_mono 60 (by kernel_rfl) (fun k => cohousinglaw29_head.mono k)
section
variable {c t : Int} {l : List RGE}
end
end Go.Proofs.Ytbgchacafglcpaa.P
end
section
namespace Go.Proofs.Ytbgchacafglcpaa.P
open Go.RowKit Go.Proofs.YtbgchacafglcpaaW.PrintWords Go.Proofs.YtbgchacafglcpaaW.PrintLast Go.Proofs.YtbgchacafglcpaaW.PrintMore
attribute [local go_sem] max2_int min2_int max_two min_two max_three min_three max_four min_four
set_option linter.unusedVariables false
set_option linter.unusedSimpArgs false
set_option maxHeartbeats 8000000
set_option maxRecDepth 100000
section
mutual
def cohousinglaw29_ChargesRight.j0 : Nat → Int → List (S63) → List (S38) → List Int → List Int → Bool → Bool → Option (Bool)
 | 0, _, _, _, _, _, _, _ => none
 | k + 1, x0, x1, x2, x3, x4, x11, x31 => if x31 = true then (some x11) else ((charges_Network.f x0 x1 x2 x3).bind fun bt478 => ((flow_Consistent.f x1 x2 x4).bind fun bt483 => (if bt478.2.2 = 0 then (if bt483.2 = 0 then (cohousinglaw29_ChargesRight.j1 k x0 x1 x4 x11 bt478.1 (!bt483.1)) else (cohousinglaw29_ChargesRight.j1 k x0 x1 x4 x11 bt478.1 true)) else (cohousinglaw29_ChargesRight.j1 k x0 x1 x4 x11 bt478.1 true))))
def cohousinglaw29_ChargesRight.j1 : Nat → Int → List (S63) → List Int → Bool → List (S43) → Bool → Option (Bool)
 | 0, _, _, _, _, _, _ => none
 | k + 1, x0, x1, x4, x11, x12, x58 => if x58 = true then (some x11) else ((cohousingref29_Root.f k x1).bind fun t485 => ((cohousingref29_Leaves.f k x1).bind fun t486 => (if t485 < 0 then (cohousinglaw29_ChargesRight.j2 k x0 x4 x11 x12 t485 t486 true) else (if (t486.length : Int) = (x12.length : Int) then (cohousinglaw29_ChargesRight.j2 k x0 x4 x11 x12 t485 t486 ((x4.length : Int) != (x1.length : Int))) else (cohousinglaw29_ChargesRight.j2 k x0 x4 x11 x12 t485 t486 true)))))
def cohousinglaw29_ChargesRight.j2 : Nat → Int → List Int → Bool → List (S43) → Int → List Int → Bool → Option (Bool)
 | 0, _, _, _, _, _, _, _ => none
 | k + 1, x0, x4, x11, x12, x17, x18, x79 => if x79 = true then (some false) else (cohousinglaw29_ChargesRight.l0 k x0 x4 x11 x12 x17 x18 0)
def cohousinglaw29_ChargesRight.l0 : Nat → Int → List Int → Bool → List (S43) → Int → List Int → Int → Option (Bool)
 | 0, _, _, _, _, _, _, _ => none
 | k + 1, x0, x4, x11, x12, x17, x18, x19 => if x19 < (x12.length : Int) then (if 0 ≤ x17 then (if x17 < (x4.length : Int) then (if 0 ≤ x19 then (if x19 < (x18.length : Int) then (if 0 ≤ (rd x18 x19) then (if (rd x18 x19) < (x4.length : Int) then ((cohousingref29_Right.f k x0 (rd x4 x17) (rd x4 (rd x18 x19))).bind fun t492 => (if t492 < ((rd_T43 x12 x19).f2.f0) then (some false) else (if t492 > ((rd_T43 x12 x19).f2.f1) then (some false) else (if (rd_T43 x12 x19).f3 = true then (if t492 = ((rd_T43 x12 x19).f1) then (cohousinglaw29_ChargesRight.l0 k x0 x4 x11 x12 x17 x18 (wrap64 (x19 + 1))) else (some false)) else (cohousinglaw29_ChargesRight.l0 k x0 x4 x11 x12 x17 x18 (wrap64 (x19 + 1))))))) else (none)) else (none)) else (none)) else (none)) else (none)) else (none)) else (some x11)
end
end
end Go.Proofs.Ytbgchacafglcpaa.P
end
section
namespace Go.Proofs.Ytbgchacafglcpaa.P
open Go.RowKit Go.Proofs.YtbgchacafglcpaaW.PrintWords Go.Proofs.YtbgchacafglcpaaW.PrintLast Go.Proofs.YtbgchacafglcpaaW.PrintMore Go.Proofs.YtbgchacafglcpaaH Go.Proofs.FlowTree
open Classical
theorem few_f (l : List PI) (r : List RG) (h : List Int) : cohousinglaw29_few.f l r h = some (decide (l.length ≤ 20 ∧ r.length ≤ 20 ∧ h.length ≤ 20)) := by
 unfold cohousinglaw29_few.f
 by_cases a : l.length ≤ 20
 ·by_cases b : r.length ≤ 20
  ·rw [if_pos (by omega), if_pos (by omega)]
   congr 1
   exact decide_eq_decide.2 (by omega)
  ·rw [if_pos (by omega), if_neg (by omega), decide_eq_false (fun h => b h.2.1)]
 ·rw [if_neg (by omega), decide_eq_false (fun h => a h.1)]
theorem gB_f {l : List PI} {r : List RG} (hl : l.length ≤ 200) (hr : r.length ≤ 200) : flow_Bounds.f l r = some (boundsR l r) := by unfold flow_Bounds.f; rw [if_pos ⟨by omega, by omega⟩]
theorem gC_f {l : List PI} {r : List RG} {x : List Int} (hl : l.length ≤ 200) (hr : r.length ≤ 200) (hx : x.length ≤ 200) : flow_Consistent.f l r x = some (consR l r x) := by unfold flow_Consistent.f; rw [if_pos ⟨by omega, by omega, by omega⟩]
theorem gS_f {l : List PI} {r : List RG} (hl : l.length ≤ 200) (hr : r.length ≤ 200) (i v : Int) : flow_State.f l r i v = some (stateR l r i v) := by unfold flow_State.f; rw [if_pos ⟨by omega, by omega⟩]
theorem gN_f {c : Int} {l : List PI} {r : List RG} {h : List Int} (hl : l.length ≤ 200) (hr : r.length ≤ 200) : charges_Network.f c l r h = some (networkC c l r h) := by unfold charges_Network.f; rw [if_pos ⟨by omega, by omega⟩]
section
variable {c : Int} {l : List PI} {known : List RG} {homes : List Int} {q : List CH × Int × Int} {d : List IV} {m : Nat} {p : List CH × Int}
def lf (l : List PI) (i : Nat) : Nat := (leavesN l l.length).getD i 0
theorem lf_rd (l : List PI) {i : Nat} (h : i < (leavesN l l.length).length) : rd ((leavesN l l.length).map Int.ofNat) (i : Int) = (lf l i : Int) := by
 rw [rd_ofNat _ _ h]
 simp [lf, List.getD_eq_getElem?_getD, h]
theorem lf_lt (l : List PI) {i : Nat} (h : i < (leavesN l l.length).length) : lf l i < l.length := by
 have : lf l i ∈ leavesN l l.length := by simp [lf, List.getD_eq_getElem?_getD, h]
 exact (leavesN_mem.1 this).1
theorem parts_q (l : List PI) (d : List IV) {i : Nat} (h : i < (leavesN l l.length).length) : qq ((leavesN l l.length).map (fun j => toR (rv d j))) i = toR (rv d (lf l i)) := by
 simp [qq, rd_T38, lf, List.getD_eq_getElem?_getD, h]
theorem parts_b (l : List PI) (d : List IV) (c t : Int) {i : Nat} (h : i < (leavesN l l.length).length) : bLo c t ((leavesN l l.length).map (fun j => toR (rv d j))) i = rightV c t (Lo d (lf l i)) ∧ bHi c t ((leavesN l l.length).map (fun j => toR (rv d j))) i = rightV c t (Hi d (lf l i)) := by
 unfold bLo bHi
 rw [parts_q l d h]
 exact ⟨rfl, rfl⟩
theorem right_at (h : NetOk c l known homes q d m p) {x : List Int} (hx : Sol (netT l) (lo9 known) (hi9 known) (fx x)) {i : Nat} (hi : i < (leavesN l l.length).length) :
  fx x m = Lo d m ∧ Lo d (lf l i) ≤ fx x (lf l i) ∧ fx x (lf l i) ≤ Hi d (lf l i) ∧ 0 ≤ Lo d (lf l i) ∧ Hi d (lf l i) ≤ Lo d m ∧ Ev (fun k => cohousingref29_Right.f k c (fx x m) (fx x (lf l i))) (rightV c (Lo d m) (fx x (lf l i))) := by
 have h1 := h.exact.sol (fx x) hx m h.root
 have h2 := h.exact.sol (fx x) hx (lf l i) (lf_lt l hi)
 have h3 := h.same
 have h4 := h.parts.2.2.2.2.2 i (by rw [List.length_map]; exact hi)
 rw [parts_q l d hi] at h4
 have h5 : (toR (rv d (lf l i))).f0 = Lo d (lf l i) := rfl
 have h6 : (toR (rv d (lf l i))).f1 = Hi d (lf l i) := rfl
 rw [h5, h6] at h4
 have e : fx x m = Lo d m := by omega
 refine ⟨e, h2.1, h2.2, h4.1, h4.2.2, ?_⟩
 rw [e]
 exact right_ref h.parts.1 h.parts.2.1 h.pos h.parts.2.2.2.1 (by omega) (by omega)
end
end Go.Proofs.Ytbgchacafglcpaa.P
end
section
namespace Go.Proofs.Ytbgchacafglcpaa.P
open Go.RowKit Go.Proofs.YtbgchacafglcpaaW.PrintWords Go.Proofs.YtbgchacafglcpaaW.PrintLast Go.Proofs.YtbgchacafglcpaaW.PrintMore Go.Proofs.YtbgchacafglcpaaH Go.Proofs.FlowTree
open Classical
section
variable {c : Int} {l : List PI} {known : List RG} {homes : List Int} {q : List CH × Int × Int} {d : List IV} {m : Nat} {p : List CH × Int}
theorem state_at_leaf (h : NetOk c l known homes q d m p) {i : Nat} (hi : i < (leavesN l l.length).length) {v : Int} (h1 : Lo d (lf l i) ≤ v) (h2 : v ≤ Hi d (lf l i)) :
  ∃ x, stateR l known (lf l i : Int) v = (x, 0) ∧ x.length = l.length ∧ Sol (netT l) (lo9 known) (hi9 known) (fx x) ∧ fx x (lf l i) = v := by
 have hlt := lf_lt l hi
 have hst := (stateR_is l known (lf l i : Int) v).1
 obtain ⟨y, hy, e⟩ := h.exact.had (lf l i) hlt v h1 h2
 generalize stateR l known (lf l i : Int) v = s at hst
 cases hst with
 | arg hn => exact absurd ⟨h.good, by omega, by omega⟩ hn
 | flow _ _ _ hn => exact absurd ⟨y, hy, by rw [Int.toNat_natCast]; exact e⟩ hn
 | ok x _ _ _ hxl hs hv _ => exact ⟨x, rfl, hxl, hs, by rw [Int.toNat_natCast] at hv; exact hv⟩
theorem tight_j1 (h : NetOk c l known homes q d m p) (hk : known.length ≤ 20) (h20 : l.length ≤ 20) (hlen : p.1.length ≠ 0) (a4 : Int) (ha : 0 ≤ a4 ∧ a4 ≤ 255) :
  Ev (fun k => cohousinglaw29_ChargesTight.j1 k c l known a4 true p.1 (m : Int) ((leavesN l l.length).map Int.ofNat) (d.map toR) false) true := by
 have hn := h.good.n
 have hL := leavesN_len l l.length
 have hpl : p.1.length = (leavesN l l.length).length := by rw [h.low.len, List.length_map]
 have hm := h.root
 have w4 : wrap64 a4 = a4 := wrap_id' (by omega) (by omega)
 obtain ⟨i, hi⟩ : ∃ i : Nat, (i : Int) = Int.tmod a4 (p.1.length : Int) := ⟨(Int.tmod a4 (p.1.length : Int)).toNat, by
  rw [Int.tmod_eq_emod_of_nonneg ha.1]
  exact Int.toNat_of_nonneg (Int.emod_nonneg _ (by omega))⟩
 have hil : i < (leavesN l l.length).length := by
  have : Int.tmod a4 (p.1.length : Int) < p.1.length := by rw [Int.tmod_eq_emod_of_nonneg ha.1]; exact Int.emod_lt_of_pos _ (by omega)
  omega
 have hlt := lf_lt l hil
 have hrng := h.exact.rng (lf l i) hlt
 obtain ⟨x, hx, hxl, hxs, hxv⟩ := state_at_leaf h hil (v := Lo d (lf l i)) (by omega) (by omega)
 obtain ⟨y, hy, hyl, hys, hyv⟩ := state_at_leaf h hil (v := Hi d (lf l i)) (by omega) (by omega)
 have e0 : ¬ ((p.1.length : Int) = 0) := by omega
 have e1 : (0 : Int) ≤ (i : Int) := by omega
 have e2 : ((i : Int) < (((leavesN l l.length).map Int.ofNat).length : Int)) := by rw [List.length_map]; omega
 have e3 : (0 : Int) ≤ (lf l i : Int) := by omega
 have e4 : ((lf l i : Int) < ((d.map toR).length : Int)) := by rw [List.length_map, h.exact.len]; omega
 have e5 : (rd_T38 (d.map toR) (lf l i : Int)).f0 = Lo d (lf l i) := congrFun (lo_map d) (lf l i)
 have e6 : (rd_T38 (d.map toR) (lf l i : Int)).f1 = Hi d (lf l i) := congrFun (hi_map d) (lf l i)
 have e7 : (x.length : Int) = (l.length : Int) := by rw [hxl]
 have e8 : ((y.length : Int) != (l.length : Int)) = false := by rw [hyl]; simp
 refine Ev.step ?_
 simp only [cohousinglaw29_ChargesTight.j1, Bool.false_eq_true, if_false, e0, w4, ← hi, e1, e2, if_true, lf_rd l hil, e3, e4, e5, e6, gS_f hn (show known.length ≤ 200 by omega), Option.bind_some, hx, hy, e7, e8]
 refine Ev.step ?_
 have cx : consR l known x = (true, 0) := by rw [consR_is, if_pos ⟨h.good, hxl⟩, decide_eq_true hxs]
 have cy : consR l known y = (true, 0) := by rw [consR_is, if_pos ⟨h.good, hyl⟩, decide_eq_true hys]
 simp only [cohousinglaw29_ChargesTight.j2, Bool.false_eq_true, if_false, gC_f hn (show known.length ≤ 200 by omega) (show x.length ≤ 200 by omega), gC_f hn (show known.length ≤ 200 by omega) (show y.length ≤ 200 by omega), Option.bind_some, cx, cy, if_true, Bool.not_true]
 obtain ⟨r1, _, _, _, _, r6⟩ := right_at h hxs hil
 obtain ⟨s1, _, _, _, _, s6⟩ := right_at h hys hil
 rw [hxv] at r6
 rw [hyv] at s6
 obtain ⟨b1, b2⟩ := parts_b l d c (Lo d m) hil
 have hf := h.low.form i (by rw [List.length_map]; exact hil)
 have q1 : (rd_T43 p.1 (i : Int)).f2.f0 = rightV c (Lo d m) (Lo d (lf l i)) := hf.lo.trans b1
 have q2 : (rd_T43 p.1 (i : Int)).f2.f1 = rightV c (Lo d m) (Hi d (lf l i)) := hf.hi.trans b2
 have g1 : (0 : Int) ≤ (m : Int) := by omega
 have g2 : ((m : Int) < (x.length : Int)) := by omega
 have g3 : ((lf l i : Int) < (x.length : Int)) := by omega
 have g4 : ((i : Int) < (p.1.length : Int)) := by omega
 have g5 : ((m : Int) < (y.length : Int)) := by omega
 have g6 : ((lf l i : Int) < (y.length : Int)) := by omega
 have x1 : rd x (m : Int) = fx x m := rfl
 have x2 : rd x (lf l i : Int) = Lo d (lf l i) := hxv
 have y1 : rd y (m : Int) = fx y m := rfl
 have y2 : rd y (lf l i : Int) = Hi d (lf l i) := hyv
 refine Ev.step ?_
 simp only [cohousinglaw29_ChargesTight.j3, Bool.false_eq_true, if_false, if_true, g1, g2, e1, e2, lf_rd l hil, e3, g3, x1, x2]
 refine Ev.bnd r6 ?_
 simp only [g4, if_true, q1, g5, g6, y1, y2]
 refine Ev.bnd s6 ?_
 simp only [q2, beq_self_eq_true]
 exact Ev.pure _
theorem tight_ (c : Int) (l : List PI) (known : List RG) (homes : List Int) (a4 : Int) (ha : 0 ≤ a4 ∧ a4 ≤ 255) : Ev (fun k => cohousinglaw29_ChargesTight.f k c l known homes a4) true := by
 have hout : ∀ q : List CH, Ev (fun k => cohousinglaw29_ChargesTight.j0 k c l known a4 true q true) true := fun q => by
  refine Ev.step ?_
  simp only [cohousinglaw29_ChargesTight.j0, if_true]
  exact Ev.pure _
 unfold cohousinglaw29_ChargesTight.f
 refine Ev.bnd head_ev ?_
 simp only [few_f, Option.bind_some]
 by_cases hf : l.length ≤ 20 ∧ known.length ≤ 20 ∧ homes.length ≤ 20
 case neg =>
  rw [decide_eq_false hf]
  simp only [Bool.false_eq_true, if_false]
  exact Ev.pure _
 rw [decide_eq_true hf]
 simp only [if_true, gN_f (c := c) (h := homes) (show l.length ≤ 200 by omega) (show known.length ≤ 200 by omega), Option.bind_some]
 by_cases hz : (networkC c l known homes).2.2 = 0
 case neg =>
  simp only [hz, if_false]
  exact hout _
 obtain ⟨d, m, p, hN⟩ := network_ok hz
 have hres := hN.res
 rw [hres]
 simp only [if_true]
 by_cases hlen : (p.1.length : Int) = 0
 ·rw [show ((p.1.length : Int) == 0) = true from beq_iff_eq.2 hlen]
  exact hout _
 rw [show ((p.1.length : Int) == 0) = false from beq_eq_false_iff_ne.2 hlen]
 have hn := hN.good.n
 obtain ⟨r, hr, hR⟩ := root_ev l (by omega)
 rcases hR with ⟨hne, _⟩ | ⟨_, m', hm', rfl, _, htot⟩
 ·exact absurd hN.one hne
 have hmm : Lo d m' = Lo d m ∧ Hi d m' = Hi d m := by
  have h1 := (htot (d.map toR)).symm.trans (hN.tot (d.map toR))
  rw [qq_toR, qq_toR] at h1
  have h2 : (toR (rv d m')).f0 = (toR (rv d m)).f0 := by rw [h1]
  have h3 : (toR (rv d m')).f1 = (toR (rv d m)).f1 := by rw [h1]
  exact ⟨h2, h3⟩
 have hN' : NetOk c l known homes (networkC c l known homes) d m' p :=
  ⟨hN.good, hN.bounds, hN.exact, hm', hN.one, htot, by rw [hmm.1, hmm.2]; exact hN.same, by rw [hmm.1]; exact hN.pos, by rw [hmm.1]; exact hN.parts, by rw [hmm.1]; exact hN.low, by rw [hmm.1]; exact hN.flow, hN.res⟩
 refine Ev.step ?_
 simp only [cohousinglaw29_ChargesTight.j0, Bool.false_eq_true, if_false]
 refine Ev.bnd hr ?_
 refine Ev.bnd (leaves_ev l hn) ?_
 have h1 : ¬ ((m' : Int) < 0) := by omega
 have h2 : ((((leavesN l l.length).map Int.ofNat).length : Int)) = (p.1.length : Int) := by rw [hN.low.len, List.length_map, List.length_map]
 have h3 : (((d.map toR).length : Int) != (l.length : Int)) = false := by rw [List.length_map, hN.exact.len]; simp
 simp only [gB_f hn (show known.length ≤ 200 by omega), Option.bind_some, hN.bounds, if_true, h1, if_false, h2, h3]
 exact tight_j1 hN' hf.2.1 hf.1 (by omega) a4 ha
end
end Go.Proofs.Ytbgchacafglcpaa.P
end
