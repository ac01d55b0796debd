/- Part 1 of the proof of ChargesRight: what it alone needs. -/
import Derived.Test.YtbgchacafglcpaaCBe
set_option linter.unusedVariables false
set_option linter.unusedSimpArgs false
section
namespace Go.Proofs.Ytbgchacafglcpaa.P
open Go.RowKit Go.Proofs.YtbgchacafglcpaaW.PrintWords Go.Proofs.YtbgchacafglcpaaW.PrintLast Go.Proofs.YtbgchacafglcpaaW.PrintMore
attribute [local go_sem] max2_int min2_int max_two min_two max_three min_three max_four min_four
set_option linter.unusedVariables false
set_option linter.unusedSimpArgs false
mutual
def cohousinglaw29_ChargesRight.j0 : Nat → Int → List (S63) → List (S38) → List Int → List Int → Bool → Bool → Option (Bool)
 | 0, _, _, _, _, _, _, _ => none
 | k + 1, x0, x1, x2, x3, x4, x11, x31 => if x31 = true then (some x11) else ((charges_Network.f x0 x1 x2 x3).bind fun bt478 => ((flow_Consistent.f x1 x2 x4).bind fun bt483 => (if bt478.2.2 = 0 then (if bt483.2 = 0 then (cohousinglaw29_ChargesRight.j1 k x0 x1 x4 x11 bt478.1 (!bt483.1)) else (cohousinglaw29_ChargesRight.j1 k x0 x1 x4 x11 bt478.1 true)) else (cohousinglaw29_ChargesRight.j1 k x0 x1 x4 x11 bt478.1 true))))
def cohousinglaw29_ChargesRight.j1 : Nat → Int → List (S63) → List Int → Bool → List (S43) → Bool → Option (Bool)
 | 0, _, _, _, _, _, _ => none
 | k + 1, x0, x1, x4, x11, x12, x58 => if x58 = true then (some x11) else ((cohousingref29_Root.f k x1).bind fun t485 => ((cohousingref29_Leaves.f k x1).bind fun t486 => (if t485 < 0 then (cohousinglaw29_ChargesRight.j2 k x0 x4 x11 x12 t485 t486 true) else (if (t486.length : Int) = (x12.length : Int) then (cohousinglaw29_ChargesRight.j2 k x0 x4 x11 x12 t485 t486 ((x4.length : Int) != (x1.length : Int))) else (cohousinglaw29_ChargesRight.j2 k x0 x4 x11 x12 t485 t486 true)))))
def cohousinglaw29_ChargesRight.j2 : Nat → Int → List Int → Bool → List (S43) → Int → List Int → Bool → Option (Bool)
 | 0, _, _, _, _, _, _, _ => none
 | k + 1, x0, x4, x11, x12, x17, x18, x79 => if x79 = true then (some false) else (cohousinglaw29_ChargesRight.l0 k x0 x4 x11 x12 x17 x18 0)
def cohousinglaw29_ChargesRight.l0 : Nat → Int → List Int → Bool → List (S43) → Int → List Int → Int → Option (Bool)
 | 0, _, _, _, _, _, _, _ => none
 | k + 1, x0, x4, x11, x12, x17, x18, x19 => if x19 < (x12.length : Int) then (if 0 ≤ x17 then (if x17 < (x4.length : Int) then (if 0 ≤ x19 then (if x19 < (x18.length : Int) then (if 0 ≤ (rd x18 x19) then (if (rd x18 x19) < (x4.length : Int) then ((cohousingref29_Right.f k x0 (rd x4 x17) (rd x4 (rd x18 x19))).bind fun t492 => (if t492 < ((rd_T43 x12 x19).f2.f0) then (some false) else (if t492 > ((rd_T43 x12 x19).f2.f1) then (some false) else (if (rd_T43 x12 x19).f3 = true then (if t492 = ((rd_T43 x12 x19).f1) then (cohousinglaw29_ChargesRight.l0 k x0 x4 x11 x12 x17 x18 (wrap64 (x19 + 1))) else (some false)) else (cohousinglaw29_ChargesRight.l0 k x0 x4 x11 x12 x17 x18 (wrap64 (x19 + 1))))))) else (none)) else (none)) else (none)) else (none)) else (none)) else (none)) else (some x11)
end
def cohousinglaw29_ChargesRight.f (k : Nat) (a0 : Int) (l1 : List (S63)) (l2 : List (S38)) (l3 : List Int) (l4 : List Int) : Option (Bool) := (cohousinglaw29_head.f k).bind fun t476 => ((cohousinglaw29_few.f l1 l2 l3).bind fun t477 => (if t477 = true then (cohousinglaw29_ChargesRight.j0 k a0 l1 l2 l3 l4 t476 (decide ((l4.length : Int) > 20))) else (cohousinglaw29_ChargesRight.j0 k a0 l1 l2 l3 l4 t476 true)))
def cohousinglaw29_ChargesRight.T15 : Bool × List (List Nat × List Nat) := (true, [([], []), ([], []), ([], []), ([1, 2], [1, 2]), ([3], [3]), ([], []), ([], []), ([], []), ([6, 7], [6, 7]), ([8], [8]), ([5, 9], [5, 9]), ([10], [10]), ([0, 4, 11], [0, 4, 11]), ([12, 12, 0, 1, 2, 3, 4, 5, 6, 7, 8, 9, 10, 11, 12], [12])])
def cohousinglaw29_ChargesRight.B15 : List Nat := [0, 0, 0, 6, 14, 0, 0, 0, 192, 448, 992, 2016, 4095, 8191]
theorem cohousinglaw29_ChargesRight.tab15 : rtab .any (opsOf Try.f9 15) = cohousinglaw29_ChargesRight.T15 := by kernel_rfl
theorem cohousinglaw29_ChargesRight.bits15 : waitsOk cohousinglaw29_ChargesRight.T15.2 cohousinglaw29_ChargesRight.B15 = true := by kernel_rfl
set_option maxHeartbeats 8000000 in
set_option maxRecDepth 100000 in
theorem cohousinglaw29_ChargesRight.calls (k : Nat) (a0 : Int) (A1 : Option Addr) (c1 : Nat) (l1 : List (S63)) (A2 : Option Addr) (c2 : Nat) (l2 : List (S38)) (A3 : Option Addr) (c3 : Nat) (l3 : List Int) (A4 : Option Addr) (c4 : Nat) (l4 : List Int) (r : Bool) (w : World) (hr1 : Kd.C k63 w A1 l1.length l1) (hc1 : l1.length ≤ c1) (hr2 : Kd.C k38 w A2 l2.length l2) (hc2 : l2.length ≤ c2) (hr3 : Kd.C (Kd.int .i64) w A3 l3.length l3) (hc3 : l3.length ≤ c3) (hr4 : Kd.C (Kd.int .i64) w A4 l4.length l4) (hc4 : l4.length ≤ c4) (h : cohousinglaw29_ChargesRight.f k a0 l1 l2 l3 l4 = some r) :
  Calls Try.prog 9 #[.int .i64 a0, .slice A1 l1.length c1, .slice A2 l2.length c2, .slice A3 l3.length c3, .slice A4 l4.length c4] w fun e w' => e = .returned (.bool r) ∧ Below w.heap.size w w' := by
 have HR1 := Aside0.mk hr1
 have HC1 := Aside0.mk hc1
 clear hr1 hc1
 have HR2 := Aside0.mk hr2
 have HC2 := Aside0.mk hc2
 clear hr2 hc2
 have HR3 := Aside0.mk hr3
 have HC3 := Aside0.mk hc3
 clear hr3 hc3
 have HR4 := Aside0.mk hr4
 have HC4 := Aside0.mk hc4
 clear hr4 hc4
 have HB := Aside0.mk (Below.refl w.heap.size w)
 have H : ((cohousinglaw29_head.f k).bind fun t476 => ((cohousinglaw29_few.f l1 l2 l3).bind fun t477 => (if t477 = true then (cohousinglaw29_ChargesRight.j0 k a0 l1 l2 l3 l4 t476 (decide ((l4.length : Int) > 20))) else (cohousinglaw29_ChargesRight.j0 k a0 l1 l2 l3 l4 t476 true)))) = some r := h
 clear h
 replace H := Option.bind_eq_some_iff.mp H
 obtain ⟨t476, A60, H⟩ := H
 replace H : ((cohousinglaw29_few.f l1 l2 l3).bind fun t477 => (if t477 = true then (cohousinglaw29_ChargesRight.j0 k a0 l1 l2 l3 l4 t476 (decide ((l4.length : Int) > 20))) else (cohousinglaw29_ChargesRight.j0 k a0 l1 l2 l3 l4 t476 true))) = some r := H
 have A6 := Aside0.mk A60
 clear A60
 have HC7 := Aside0.mk H
 clear H
 go_enter Try.func9, Try.ntmps9
 go_upto_region 2 with (first | ((with_reducible refine gate_callee (f := 20) rfl ?_); refine goesL_ (some 21) rfl rfl Try.func20 (by kernel_rfl) rfl #[] rfl (by (try simp only [List.map_toArray, List.map_cons, List.map_nil]); first | done | rfl | (simp only [List.length_drop, List.length_take]; rfl)) ?_; (with_reducible refine (cohousinglaw29_head.calls k  t476 _ A6.out).mono ?_); rintro e w8 ⟨rfl, hb⟩; refine ⟨_, rfl, ?_⟩; have n0_ := Aside0.mk (below_step (by repeat (first | (with_reducible first | exact HB.out | apply below_alloc | apply pw_below_drewN | apply below_drew1) | exact HB.out)) hb); clear HB; have HB := n0_; clear n0_; (try clear hb); (try clear hb2); (try clear hk); (try clear hi)))
 (try simp only [Act.put, sI_, s0_, sS_])
 go_cut [31] (fun v31 wc => ∃ (kq : Nat) (x31_6 : Bool), v31 = .bool x31_6 ∧ Aside0 (cohousinglaw29_ChargesRight.j0 kq a0 l1 l2 l3 l4 t476 x31_6 = some r) ∧ Aside0 (kq ≤ k) ∧ Aside0 (Below w.heap.size w wc))
 case first =>
  have H := HC7.out
  clear HC7
  replace H := Option.bind_eq_some_iff.mp H
  obtain ⟨t477, A90, H⟩ := H
  replace H : (if t477 = true then (cohousinglaw29_ChargesRight.j0 k a0 l1 l2 l3 l4 t476 (decide ((l4.length : Int) > 20))) else (cohousinglaw29_ChargesRight.j0 k a0 l1 l2 l3 l4 t476 true)) = some r := H
  have A9 := Aside0.mk A90
  clear A90
  by_cases c10 : t477 = true
  ·subst c10
   have H1 : (cohousinglaw29_ChargesRight.j0 k a0 l1 l2 l3 l4 t476 (decide ((l4.length : Int) > 20))) = some r := by rw [if_pos rfl] at H; exact H
   clear H
   have H := H1
   clear H1
   have H' := Aside0.mk H
   clear H
   go_wp2_with (first | ((with_reducible refine gate_callee (f := 21) rfl ?_); refine goesL_ (some 25) rfl rfl Try.func21 (by kernel_rfl) rfl #[.slice A1 l1.length c1, .slice A2 l2.length c2, .slice A3 l3.length c3] rfl (by (try simp only [List.map_toArray, List.map_cons, List.map_nil]); first | done | rfl | (simp only [List.length_drop, List.length_take]; rfl)) ?_; (with_reducible refine (cohousinglaw29_few.calls _ _ l1 _ _ l2 _ _ l3 true _ ?side1 ?side2 ?side3 ?side4 ?side5 ?side6 A9.out).mono ?_); (case side1 => repeat (first | exact (Kd.C_below HR1.out HB.out) | (with_reducible refine Kd.C_alloc ?_ _) | (with_reducible refine Kd.C_drewN ?_ _) | (with_reducible refine Kd.C_drew ?_))); (case side2 => exact HC1.out); (case side3 => repeat (first | exact (Kd.C_below HR2.out HB.out) | (with_reducible refine Kd.C_alloc ?_ _) | (with_reducible refine Kd.C_drewN ?_ _) | (with_reducible refine Kd.C_drew ?_))); (case side4 => exact HC2.out); (case side5 => repeat (first | exact (Kd.C_below HR3.out HB.out) | (with_reducible refine Kd.C_alloc ?_ _) | (with_reducible refine Kd.C_drewN ?_ _) | (with_reducible refine Kd.C_drew ?_))); (case side6 => exact HC3.out); rintro e w' ⟨rfl, ⟨nd, rfl⟩⟩; refine ⟨_, rfl, ?_⟩))
   go_meet
   case rel => exact ⟨_, (decide ((l4.length : Int) > 20)), (by first | rfl | (simp; done) | (simp [*]; done)), H', ⟨by first | omega | exact Nat.le_refl _⟩, ⟨by repeat (first | (with_reducible first | exact HB.out | apply below_alloc | apply pw_below_drewN | apply below_drew1) | exact HB.out)⟩⟩
  ·replace c10 := Bool.eq_false_iff.mpr c10
   subst c10
   have H1 : (cohousinglaw29_ChargesRight.j0 k a0 l1 l2 l3 l4 t476 true) = some r := by rw [if_neg (show ¬ (false = true) by decide)] at H; exact H
   clear H
   have H := H1
   clear H1
   have H' := Aside0.mk H
   clear H
   go_wp2_with (first | ((with_reducible refine gate_callee (f := 21) rfl ?_); refine goesL_ (some 25) rfl rfl Try.func21 (by kernel_rfl) rfl #[.slice A1 l1.length c1, .slice A2 l2.length c2, .slice A3 l3.length c3] rfl (by (try simp only [List.map_toArray, List.map_cons, List.map_nil]); first | done | rfl | (simp only [List.length_drop, List.length_take]; rfl)) ?_; (with_reducible refine (cohousinglaw29_few.calls _ _ l1 _ _ l2 _ _ l3 false _ ?side1 ?side2 ?side3 ?side4 ?side5 ?side6 A9.out).mono ?_); (case side1 => repeat (first | exact (Kd.C_below HR1.out HB.out) | (with_reducible refine Kd.C_alloc ?_ _) | (with_reducible refine Kd.C_drewN ?_ _) | (with_reducible refine Kd.C_drew ?_))); (case side2 => exact HC1.out); (case side3 => repeat (first | exact (Kd.C_below HR2.out HB.out) | (with_reducible refine Kd.C_alloc ?_ _) | (with_reducible refine Kd.C_drewN ?_ _) | (with_reducible refine Kd.C_drew ?_))); (case side4 => exact HC2.out); (case side5 => repeat (first | exact (Kd.C_below HR3.out HB.out) | (with_reducible refine Kd.C_alloc ?_ _) | (with_reducible refine Kd.C_drewN ?_ _) | (with_reducible refine Kd.C_drew ?_))); (case side6 => exact HC3.out); rintro e w' ⟨rfl, ⟨nd, rfl⟩⟩; refine ⟨_, rfl, ?_⟩))
   go_meet
   case rel => exact ⟨_, (true), (by first | rfl | (simp; done) | (simp [*]; done)), H', ⟨by first | omega | exact Nat.le_refl _⟩, ⟨by repeat (first | (with_reducible first | exact HB.out | apply below_alloc | apply pw_below_drewN | apply below_drew1) | exact HB.out)⟩⟩
 case rest =>
  clear HC7
  try clear c1
  try clear c2
  try clear p2
  try clear c3
  try clear c4
  try clear c9
  try clear c10
  obtain ⟨kq, x31_6, rfl, HA, HJ6, HB⟩ := hcut
  cases kq with
  | zero => exact absurd HA.out (by simp [cohousinglaw29_ChargesRight.j0])
  | succ kj6 =>
   have H := HA.out
   clear HA
   simp only [cohousinglaw29_ChargesRight.j0] at H
   by_cases c11 : x31_6 = true
   ·subst c11
    have H1 : (some t476) = some r := by rw [if_pos rfl] at H; exact H
    clear H
    have H := H1
    clear H1
    obtain rfl := Option.some.inj H
    go_wp2
    go_ret
    exact ⟨by first | rfl | (simp [errW_none, errW_some] <;> rfl) | (simp [*, errW_none, errW_some] <;> rfl), by repeat (first | (with_reducible first | exact HB.out | apply below_alloc | apply pw_below_drewN | apply below_drew1) | exact HB.out)⟩
   ·replace c11 := Bool.eq_false_iff.mpr c11
    subst c11
    have H1 : ((charges_Network.f a0 l1 l2 l3).bind fun bt478 => ((flow_Consistent.f l1 l2 l4).bind fun bt483 => (if bt478.2.2 = 0 then (if bt483.2 = 0 then (cohousinglaw29_ChargesRight.j1 kj6 a0 l1 l4 t476 bt478.1 (!bt483.1)) else (cohousinglaw29_ChargesRight.j1 kj6 a0 l1 l4 t476 bt478.1 true)) else (cohousinglaw29_ChargesRight.j1 kj6 a0 l1 l4 t476 bt478.1 true)))) = some r := by rw [if_neg (show ¬ (false = true) by decide)] at H; exact H
    clear H
    have H := H1
    clear H1
    replace H := Option.bind_eq_some_iff.mp H
    obtain ⟨⟨t478, t479, t480⟩, A120, H⟩ := H
    replace H : ((flow_Consistent.f l1 l2 l4).bind fun bt483 => (if t480 = 0 then (if bt483.2 = 0 then (cohousinglaw29_ChargesRight.j1 kj6 a0 l1 l4 t476 t478 (!bt483.1)) else (cohousinglaw29_ChargesRight.j1 kj6 a0 l1 l4 t476 t478 true)) else (cohousinglaw29_ChargesRight.j1 kj6 a0 l1 l4 t476 t478 true))) = some r := H
    have A12 := Aside0.mk A120
    clear A120
    replace H := Option.bind_eq_some_iff.mp H
    obtain ⟨⟨t483, t484⟩, A130, H⟩ := H
    replace H : (if t480 = 0 then (if t484 = 0 then (cohousinglaw29_ChargesRight.j1 kj6 a0 l1 l4 t476 t478 (!t483)) else (cohousinglaw29_ChargesRight.j1 kj6 a0 l1 l4 t476 t478 true)) else (cohousinglaw29_ChargesRight.j1 kj6 a0 l1 l4 t476 t478 true)) = some r := H
    have A13 := Aside0.mk A130
    clear A130
    have HC14 := Aside0.mk H
    clear H
    go_upto_region 6 with (first | ((with_reducible refine gate_callee (f := 14) rfl ?_); refine goesL_ (some 38) rfl rfl Try.func14 (by kernel_rfl) rfl #[.int .i64 a0, .slice A1 l1.length c1, .slice A2 l2.length c2, .slice A3 l3.length c3] rfl (by (try simp only [List.map_toArray, List.map_cons, List.map_nil]); first | done | rfl | (simp only [List.length_drop, List.length_take]; rfl)) ?_; (with_reducible refine (charges_Network.calls a0 _ _ l1 _ _ l2 _ _ l3 t478 t479 t480 _ ?side1 ?side2 ?side3 ?side4 ?side5 ?side6 A12.out).mono ?_); (case side1 => repeat (first | exact (Kd.C_below HR1.out HB.out) | (with_reducible refine Kd.C_alloc ?_ _) | (with_reducible refine Kd.C_drewN ?_ _) | (with_reducible refine Kd.C_drew ?_))); (case side2 => exact HC1.out); (case side3 => repeat (first | exact (Kd.C_below HR2.out HB.out) | (with_reducible refine Kd.C_alloc ?_ _) | (with_reducible refine Kd.C_drewN ?_ _) | (with_reducible refine Kd.C_drew ?_))); (case side4 => exact HC2.out); (case side5 => repeat (first | exact (Kd.C_below HR3.out HB.out) | (with_reducible refine Kd.C_alloc ?_ _) | (with_reducible refine Kd.C_drewN ?_ _) | (with_reducible refine Kd.C_drew ?_))); (case side6 => exact HC3.out); rintro e w15 ⟨v481, rfl, ho0, hb⟩; refine ⟨_, rfl, ?_⟩; have n0_ := Aside0.mk (Kd.R_lower ho0 (below_size (by repeat (first | (with_reducible first | exact HB.out | apply below_alloc | apply pw_below_drewN | apply below_drew1) | exact HB.out)))); have n1_ := Aside0.mk (below_step (by repeat (first | (with_reducible first | exact HB.out | apply below_alloc | apply pw_below_drewN | apply below_drew1) | exact HB.out)) hb); clear HB; have HO482 := n0_; have HB := n1_; clear n0_ n1_; (try clear hb); (try clear hb2); (try clear hk); (try clear hi); (try clear ho0)) | ((with_reducible refine gate_callee (f := 16) rfl ?_); refine goesL_ (some 46) rfl rfl Try.func16 (by kernel_rfl) rfl #[.slice A1 l1.length c1, .slice A2 l2.length c2, .slice A4 l4.length c4] rfl (by (try simp only [List.map_toArray, List.map_cons, List.map_nil]); first | done | rfl | (simp only [List.length_drop, List.length_take]; rfl)) ?_; (with_reducible refine (flow_Consistent.calls _ _ l1 _ _ l2 _ _ l4 t483 t484 _ ?side1 ?side2 ?side3 ?side4 ?side5 ?side6 A13.out).mono ?_); (case side1 => repeat (first | exact (Kd.C_below HR1.out HB.out) | (with_reducible refine Kd.C_alloc ?_ _) | (with_reducible refine Kd.C_drewN ?_ _) | (with_reducible refine Kd.C_drew ?_))); (case side2 => exact HC1.out); (case side3 => repeat (first | exact (Kd.C_below HR2.out HB.out) | (with_reducible refine Kd.C_alloc ?_ _) | (with_reducible refine Kd.C_drewN ?_ _) | (with_reducible refine Kd.C_drew ?_))); (case side4 => exact HC2.out); (case side5 => repeat (first | exact (Kd.C_below HR4.out HB.out) | (with_reducible refine Kd.C_alloc ?_ _) | (with_reducible refine Kd.C_drewN ?_ _) | (with_reducible refine Kd.C_drew ?_))); (case side6 => exact HC4.out); rintro e w16 ⟨rfl, hb⟩; refine ⟨_, rfl, ?_⟩; have n0_ := Aside0.mk (Kd.R_below (by (with_reducible repeat (first | apply Kd.R_alloc | apply Kd.R_drewN | apply Kd.R_drew)); exact HO482.out) hb); have n1_ := Aside0.mk (below_step (by repeat (first | (with_reducible first | exact HB.out | apply below_alloc | apply pw_below_drewN | apply below_drew1) | exact HB.out)) hb); clear HO482; clear HB; have HO482 := n0_; have HB := n1_; clear n0_ n1_; (try clear hb); (try clear hb2); (try clear hk); (try clear hi)))
    (try simp only [Act.put, sI_, s0_, sS_])
    go_cut [58] (fun v58 wc => ∃ (kq : Nat) (x58_13 : Bool), v58 = .bool x58_13 ∧ Aside0 (cohousinglaw29_ChargesRight.j1 kq a0 l1 l4 t476 t478 x58_13 = some r) ∧ Aside0 (kq ≤ kj6) ∧ Aside0 (Kd.R k43 43 wc w.heap.size (fun _ => True) v481 t478) ∧ Aside0 (Below w.heap.size w wc))
    case first =>
     have H := HC14.out
     clear HC14
     by_cases c17 : t480 = 0
     ·rw [if_pos c17] at H
      have c17b0 : (t480 == 0) = true := beq_iff_eq.mpr c17
      have c17b1 : (t480 != 0) = false := bne_eq_false_iff_eq.mpr c17
      clear c17
      (first | rw [c17b0] | (simp only [i64_w, i32_w]; rw [c17b0]) | skip)
      by_cases c18 : t484 = 0
      ·rw [if_pos c18] at H
       have c18b0 : (t484 == 0) = true := beq_iff_eq.mpr c18
       have c18b1 : (t484 != 0) = false := bne_eq_false_iff_eq.mpr c18
       clear c18
       have H' := Aside0.mk H
       clear H
       go_wp2
       go_meet
       case rel => exact ⟨_, (!t483), (by first | rfl | (simp; done) | (simp [*]; done)), H', ⟨by have := HJ6.out; first | omega | exact Nat.le_refl _⟩, ⟨by (with_reducible repeat (first | apply Kd.R_alloc | apply Kd.R_drewN | apply Kd.R_drew)); exact HO482.out⟩, ⟨by repeat (first | (with_reducible first | exact HB.out | apply below_alloc | apply pw_below_drewN | apply below_drew1) | exact HB.out)⟩⟩
      ·rw [if_neg c18] at H
       have c18b0 : (t484 == 0) = false := beq_eq_false_iff_ne.mpr c18
       have c18b1 : (t484 != 0) = true := bne_iff_ne.mpr c18
       have H' := Aside0.mk H
       clear H
       go_wp2
       go_meet
       case rel => exact ⟨_, (true), (by first | rfl | (simp; done) | (simp [*]; done)), H', ⟨by have := HJ6.out; first | omega | exact Nat.le_refl _⟩, ⟨by (with_reducible repeat (first | apply Kd.R_alloc | apply Kd.R_drewN | apply Kd.R_drew)); exact HO482.out⟩, ⟨by repeat (first | (with_reducible first | exact HB.out | apply below_alloc | apply pw_below_drewN | apply below_drew1) | exact HB.out)⟩⟩
     ·rw [if_neg c17] at H
      have c17b0 : (t480 == 0) = false := beq_eq_false_iff_ne.mpr c17
      have c17b1 : (t480 != 0) = true := bne_iff_ne.mpr c17
      (first | rw [c17b0] | (simp only [i64_w, i32_w]; rw [c17b0]) | skip)
      have H' := Aside0.mk H
      clear H
      go_wp2
      go_meet
      case rel => exact ⟨_, (true), (by first | rfl | (simp; done) | (simp [*]; done)), H', ⟨by have := HJ6.out; first | omega | exact Nat.le_refl _⟩, ⟨by (with_reducible repeat (first | apply Kd.R_alloc | apply Kd.R_drewN | apply Kd.R_drew)); exact HO482.out⟩, ⟨by repeat (first | (with_reducible first | exact HB.out | apply below_alloc | apply pw_below_drewN | apply below_drew1) | exact HB.out)⟩⟩
    case rest =>
     clear HC14
     try clear c1
     try clear c2
     try clear p2
     try clear c3
     try clear c4
     try clear c9
     try clear c10
     try clear c11
     try clear c14
     try clear c16
     try clear c17
     try clear c17b0
     try clear c17b1
     try clear c18
     try clear c18b0
     try clear c18b1
     try clear p2
     obtain ⟨kq, x58_13, rfl, HA, HJ13, HO_12, HB⟩ := hcut
     cases kq with
     | zero => exact absurd HA.out (by simp [cohousinglaw29_ChargesRight.j1])
     | succ kj13 =>
      have H := HA.out
      clear HA
      simp only [cohousinglaw29_ChargesRight.j1] at H
      by_cases c19 : x58_13 = true
      ·subst c19
       have H1 : (some t476) = some r := by rw [if_pos rfl] at H; exact H
       clear H
       have H := H1
       clear H1
       obtain rfl := Option.some.inj H
       go_wp2
       go_ret
       exact ⟨by first | rfl | (simp [errW_none, errW_some] <;> rfl) | (simp [*, errW_none, errW_some] <;> rfl), by repeat (first | (with_reducible first | exact HB.out | apply below_alloc | apply pw_below_drewN | apply below_drew1) | exact HB.out)⟩
      ·replace c19 := Bool.eq_false_iff.mpr c19
       subst c19
       have H1 : ((cohousingref29_Root.f kj13 l1).bind fun t485 => ((cohousingref29_Leaves.f kj13 l1).bind fun t486 => (if t485 < 0 then (cohousinglaw29_ChargesRight.j2 kj13 a0 l4 t476 t478 t485 t486 true) else (if (t486.length : Int) = (t478.length : Int) then (cohousinglaw29_ChargesRight.j2 kj13 a0 l4 t476 t478 t485 t486 ((l4.length : Int) != (l1.length : Int))) else (cohousinglaw29_ChargesRight.j2 kj13 a0 l4 t476 t478 t485 t486 true))))) = some r := by rw [if_neg (show ¬ (false = true) by decide)] at H; exact H
       clear H
       have H := H1
       clear H1
       replace H := Option.bind_eq_some_iff.mp H
       obtain ⟨t485, A200, H⟩ := H
       replace H : ((cohousingref29_Leaves.f kj13 l1).bind fun t486 => (if t485 < 0 then (cohousinglaw29_ChargesRight.j2 kj13 a0 l4 t476 t478 t485 t486 true) else (if (t486.length : Int) = (t478.length : Int) then (cohousinglaw29_ChargesRight.j2 kj13 a0 l4 t476 t478 t485 t486 ((l4.length : Int) != (l1.length : Int))) else (cohousinglaw29_ChargesRight.j2 kj13 a0 l4 t476 t478 t485 t486 true)))) = some r := H
       have A20 := Aside0.mk A200
       clear A200
       replace H := Option.bind_eq_some_iff.mp H
       obtain ⟨t486, A210, H⟩ := H
       replace H : (if t485 < 0 then (cohousinglaw29_ChargesRight.j2 kj13 a0 l4 t476 t478 t485 t486 true) else (if (t486.length : Int) = (t478.length : Int) then (cohousinglaw29_ChargesRight.j2 kj13 a0 l4 t476 t478 t485 t486 ((l4.length : Int) != (l1.length : Int))) else (cohousinglaw29_ChargesRight.j2 kj13 a0 l4 t476 t478 t485 t486 true))) = some r := H
       have A21 := Aside0.mk A210
       clear A210
       have HC22 := Aside0.mk H
       clear H
       go_upto_region 10 with (first | ((with_reducible refine gate_callee (f := 18) rfl ?_); refine goesL_ (some 61) rfl rfl Try.func18 (by kernel_rfl) rfl #[.slice A1 l1.length c1] rfl (by (try simp only [List.map_toArray, List.map_cons, List.map_nil]); first | done | rfl | (simp only [List.length_drop, List.length_take]; rfl)) ?_; (with_reducible refine (cohousingref29_Root.calls kj13 _ _ l1 t485 _ ?side1 ?side2 A20.out).mono ?_); (case side1 => repeat (first | exact (Kd.C_below HR1.out HB.out) | (with_reducible refine Kd.C_alloc ?_ _) | (with_reducible refine Kd.C_drewN ?_ _) | (with_reducible refine Kd.C_drew ?_))); (case side2 => exact HC1.out); rintro e w' ⟨rfl, ⟨nd, rfl⟩⟩; refine ⟨_, rfl, ?_⟩) | ((with_reducible refine gate_callee (f := 17) rfl ?_); refine goesL_ (some 63) rfl rfl Try.func17 (by kernel_rfl) rfl #[.slice A1 l1.length c1] rfl (by (try simp only [List.map_toArray, List.map_cons, List.map_nil]); first | done | rfl | (simp only [List.length_drop, List.length_take]; rfl)) ?_; (with_reducible refine (cohousingref29_Leaves.calls kj13 _ _ l1 t486 _ ?side1 ?side2 A21.out).mono ?_); (case side1 => repeat (first | exact (Kd.C_below HR1.out (by repeat (first | (with_reducible first | exact HB.out | apply below_alloc | apply pw_below_drewN | apply below_drew1) | exact HB.out))) | (with_reducible refine Kd.C_alloc ?_ _) | (with_reducible refine Kd.C_drewN ?_ _) | (with_reducible refine Kd.C_drew ?_))); (case side2 => exact HC1.out); rintro e w23 ⟨v487, rfl, ho0, hb⟩; refine ⟨_, rfl, ?_⟩; have n0_ := Aside0.mk (Kd.R_below (by (with_reducible repeat (first | apply Kd.R_alloc | apply Kd.R_drewN | apply Kd.R_drew)); exact HO_12.out) hb); have n1_ := Aside0.mk (Kd.R_lower ho0 (below_size (by repeat (first | (with_reducible first | exact HB.out | apply below_alloc | apply pw_below_drewN | apply below_drew1) | exact HB.out)))); have n2_ := Aside0.mk (below_step (by repeat (first | (with_reducible first | exact HB.out | apply below_alloc | apply pw_below_drewN | apply below_drew1) | exact HB.out)) hb); clear HO_12; clear HB; have HO_12 := n0_; have HO488 := n1_; have HB := n2_; clear n0_ n1_ n2_; (try clear hb); (try clear hb2); (try clear hk); (try clear hi); (try clear ho0)))
       (try simp only [Act.put, sI_, s0_, sS_])
       go_cut [79] (fun v79 wc => ∃ (kq : Nat) (x79_21 : Bool), v79 = .bool x79_21 ∧ Aside0 (cohousinglaw29_ChargesRight.j2 kq a0 l4 t476 t478 t485 t486 x79_21 = some r) ∧ Aside0 (kq ≤ kj13) ∧ Aside0 (Kd.R k43 43 wc w.heap.size (fun _ => True) v481 t478) ∧ Aside0 (Kd.R (Kd.int .i64) 3 wc w.heap.size (fun _ => True) v487 t486) ∧ Aside0 (Below w.heap.size w wc))
       case first =>
        have H := HC22.out
        clear HC22
        by_cases c24 : t485 < 0
        ·rw [if_pos c24] at H
         have c24b0 : decide (t485 < 0) = true := decide_eq_true c24
         clear c24
         (first | rw [c24b0] | (simp only [i64_w, i32_w]; rw [c24b0]) | skip)
         have H' := Aside0.mk H
         clear H
         go_wp2
         go_meet
         case rel => exact ⟨_, (true), (by first | rfl | (simp; done) | (simp [*]; done)), H', ⟨by have := HJ6.out; have := HJ13.out; first | omega | exact Nat.le_refl _⟩, ⟨by (with_reducible repeat (first | apply Kd.R_alloc | apply Kd.R_drewN | apply Kd.R_drew)); exact HO_12.out⟩, ⟨by (with_reducible repeat (first | apply Kd.R_alloc | apply Kd.R_drewN | apply Kd.R_drew)); exact HO488.out⟩, ⟨by repeat (first | (with_reducible first | exact HB.out | apply below_alloc | apply pw_below_drewN | apply below_drew1) | exact HB.out)⟩⟩
        ·rw [if_neg c24] at H
         have c24b0 : decide (t485 < 0) = false := decide_eq_false c24
         clear c24
         (first | rw [c24b0] | (simp only [i64_w, i32_w]; rw [c24b0]) | skip)
         by_cases c25 : (t486.length : Int) = (t478.length : Int)
         ·rw [if_pos c25] at H
          have c25b0 : ((t486.length : Int) == (t478.length : Int)) = true := beq_iff_eq.mpr c25
          have c25b1 : ((t486.length : Int) != (t478.length : Int)) = false := bne_eq_false_iff_eq.mpr c25
          have c25b2 : (t486.length == t478.length) = true := by first | simpa using c25 | (simp at c25 ⊢; omega)
          clear c25
          have H' := Aside0.mk H
          clear H
          obtain ⟨Ao26, co26, eo26⟩ := Kd.R_slice HO488.out
          subst eo26
          obtain ⟨Ao27, co27, eo27⟩ := Kd.R_slice HO_12.out
          subst eo27
          go_wp2
          go_meet
          case rel => exact ⟨_, (((l4.length : Int) != (l1.length : Int))), (by first | rfl | (simp; done) | (simp [*]; done)), H', ⟨by have := HJ6.out; have := HJ13.out; first | omega | exact Nat.le_refl _⟩, ⟨by (with_reducible repeat (first | apply Kd.R_alloc | apply Kd.R_drewN | apply Kd.R_drew)); exact HO_12.out⟩, ⟨by (with_reducible repeat (first | apply Kd.R_alloc | apply Kd.R_drewN | apply Kd.R_drew)); exact HO488.out⟩, ⟨by repeat (first | (with_reducible first | exact HB.out | apply below_alloc | apply pw_below_drewN | apply below_drew1) | exact HB.out)⟩⟩
         ·rw [if_neg c25] at H
          have c25b0 : ((t486.length : Int) == (t478.length : Int)) = false := beq_eq_false_iff_ne.mpr c25
          have c25b1 : ((t486.length : Int) != (t478.length : Int)) = true := bne_iff_ne.mpr c25
          have c25b2 : (t486.length == t478.length) = false := by first | simpa using c25 | (simp at c25 ⊢; omega)
          have H' := Aside0.mk H
          clear H
          obtain ⟨Ao28, co28, eo28⟩ := Kd.R_slice HO488.out
          subst eo28
          obtain ⟨Ao29, co29, eo29⟩ := Kd.R_slice HO_12.out
          subst eo29
          go_wp2
          go_meet
          case rel => exact ⟨_, (true), (by first | rfl | (simp; done) | (simp [*]; done)), H', ⟨by have := HJ6.out; have := HJ13.out; first | omega | exact Nat.le_refl _⟩, ⟨by (with_reducible repeat (first | apply Kd.R_alloc | apply Kd.R_drewN | apply Kd.R_drew)); exact HO_12.out⟩, ⟨by (with_reducible repeat (first | apply Kd.R_alloc | apply Kd.R_drewN | apply Kd.R_drew)); exact HO488.out⟩, ⟨by repeat (first | (with_reducible first | exact HB.out | apply below_alloc | apply pw_below_drewN | apply below_drew1) | exact HB.out)⟩⟩
       case rest =>
        clear HC22
        try clear c1
        try clear c2
        try clear p2
        try clear c3
        try clear c4
        try clear c9
        try clear c10
        try clear c11
        try clear c14
        try clear c16
        try clear c17
        try clear c17b0
        try clear c17b1
        try clear c18
        try clear c18b0
        try clear c18b1
        try clear c19
        try clear c20
        try clear c21
        try clear c24
        try clear c24b0
        try clear c25
        try clear c25b0
        try clear c25b1
        try clear c25b2
        try clear p2
        obtain ⟨kq, x79_21, rfl, HA, HJ21, HO_12, HO_18, HB⟩ := hcut
        cases kq with
        | zero => exact absurd HA.out (by simp [cohousinglaw29_ChargesRight.j2])
        | succ kj21 =>
         have H := HA.out
         clear HA
         simp only [cohousinglaw29_ChargesRight.j2] at H
         by_cases c30 : x79_21 = true
         ·subst c30
          have H1 : (some false) = some r := by rw [if_pos rfl] at H; exact H
          clear H
          have H := H1
          clear H1
          obtain rfl := Option.some.inj H
          go_wp2
          go_ret
          exact ⟨by first | rfl | (simp [errW_none, errW_some] <;> rfl) | (simp [*, errW_none, errW_some] <;> rfl), by repeat (first | (with_reducible first | exact HB.out | apply below_alloc | apply pw_below_drewN | apply below_drew1) | exact HB.out)⟩
         ·replace c30 := Bool.eq_false_iff.mpr c30
          subst c30
          have H1 : (cohousinglaw29_ChargesRight.l0 kj21 a0 l4 t476 t478 t485 t486 0) = some r := by rw [if_neg (show ¬ (false = true) by decide)] at H; exact H
          clear H
          have H := H1
          clear H1
          have H' := Aside0.mk H
          clear H
          go_wp2
          go_loopg [19] kj21 (fun kq v19 w' => ∃ (x19_4 : Int), v19 = .int .i64 x19_4 ∧ Aside0 (cohousinglaw29_ChargesRight.l0 kq a0 l4 t476 t478 t485 t486 x19_4 = some r) ∧ Aside0 (kq ≤ kj21) ∧ Aside0 (Kd.R k43 43 w' w.heap.size (fun _ => True) v481 t478) ∧ Aside0 (Kd.R (Kd.int .i64) 3 w' w.heap.size (fun _ => True) v487 t486) ∧ Aside0 (Below w.heap.size w w'))
          case atStart => exact ⟨(0), (by first | rfl | (simp; done) | (simp [*]; done)), H', ⟨Nat.le_refl _⟩, ⟨by (with_reducible repeat (first | apply Kd.R_alloc | apply Kd.R_drewN | apply Kd.R_drew)); exact HO_12.out⟩, ⟨by (with_reducible repeat (first | apply Kd.R_alloc | apply Kd.R_drewN | apply Kd.R_drew)); exact HO_18.out⟩, ⟨by repeat (first | (with_reducible first | exact HB.out | apply below_alloc | apply pw_below_drewN | apply below_drew1) | exact HB.out)⟩⟩
          case round =>
           clear H'
           try clear c1
           try clear c2
           try clear p2
           try clear c3
           try clear c4
           try clear c9
           try clear c10
           try clear c11
           try clear c14
           try clear c16
           try clear c17
           try clear c17b0
           try clear c17b1
           try clear c18
           try clear c18b0
           try clear c18b1
           try clear c19
           try clear c20
           try clear c21
           try clear c24
           try clear c24b0
           try clear c25
           try clear c25b0
           try clear c25b1
           try clear c25b2
           try clear c30
           try clear p2
           obtain ⟨x19_4, rfl, HA, HK4, HO_12, HO_18, HB⟩ := hrel
           cases gk with
           | zero => exact absurd HA.out (by simp [cohousinglaw29_ChargesRight.l0])
           | succ k4 =>
            have H := HA.out
            clear HA
            simp only [cohousinglaw29_ChargesRight.l0] at H
            by_cases c31 : x19_4 < (t478.length : Int)
            ·rw [if_pos c31] at H
             have c31b0 : decide (x19_4 < (t478.length : Int)) = true := decide_eq_true c31
             clear c31
             by_cases c32 : 0 ≤ t485
             ·rw [if_pos c32] at H
              have c32b0 : decide (0 ≤ t485) = true := decide_eq_true c32
              clear c32
              by_cases c33 : t485 < (l4.length : Int)
              ·rw [if_pos c33] at H
               have c33b0 : decide (t485 < (l4.length : Int)) = true := decide_eq_true c33
               clear c33
               by_cases c34 : 0 ≤ x19_4
               ·rw [if_pos c34] at H
                have c34b0 : decide (0 ≤ x19_4) = true := decide_eq_true c34
                clear c34
                by_cases c35 : x19_4 < (t486.length : Int)
                ·rw [if_pos c35] at H
                 have c35b0 : decide (x19_4 < (t486.length : Int)) = true := decide_eq_true c35
                 clear c35
                 by_cases c36 : 0 ≤ (rd t486 x19_4)
                 ·rw [if_pos c36] at H
                  have c36b0 : decide (0 ≤ (rd t486 x19_4)) = true := decide_eq_true c36
                  clear c36
                  by_cases c37 : (rd t486 x19_4) < (l4.length : Int)
                  ·rw [if_pos c37] at H
                   have c37b0 : decide ((rd t486 x19_4) < (l4.length : Int)) = true := decide_eq_true c37
                   clear c37
                   replace H := Option.bind_eq_some_iff.mp H
                   obtain ⟨t492, A380, H⟩ := H
                   replace H : (if t492 < ((rd_T43 t478 x19_4).f2.f0) then (some false) else (if t492 > ((rd_T43 t478 x19_4).f2.f1) then (some false) else (if (rd_T43 t478 x19_4).f3 = true then (if t492 = ((rd_T43 t478 x19_4).f1) then (cohousinglaw29_ChargesRight.l0 k4 a0 l4 t476 t478 t485 t486 (wrap64 (x19_4 + 1))) else (some false)) else (cohousinglaw29_ChargesRight.l0 k4 a0 l4 t476 t478 t485 t486 (wrap64 (x19_4 + 1)))))) = some r := H
                   have A38 := Aside0.mk A380
                   clear A380
                   by_cases c39 : t492 < ((rd_T43 t478 x19_4).f2.f0)
                   ·rw [if_pos c39] at H
                    have c39b0 : decide (t492 < ((rd_T43 t478 x19_4).f2.f0)) = true := decide_eq_true c39
                    clear c39
                    obtain rfl := Option.some.inj H
                    obtain ⟨Ao40, co40, eo40⟩ := Kd.R_slice HO_12.out
                    subst eo40
                    try go_wp2
                    have n0_ := Aside0.mk (Kd.R_drew HO_12.out)
                    have n1_ := Aside0.mk (Kd.R_drew HO_18.out)
                    have n2_ := Aside0.mk (below_drew1 HB.out)
                    clear HO_12
                    clear HO_18
                    clear HB
                    have HO_12 := n0_
                    have HO_18 := n1_
                    have HB := n2_
                    clear n0_ n1_ n2_
                    have p489 : 0 ≤ (t485 : Int) := of_decide_eq_true (by first | (with_reducible assumption) | assumption)
                    have q489 : t485 < (l4.length : Int) := of_decide_eq_true (by first | (with_reducible assumption) | assumption)
                    obtain ⟨ad489, e489, hx489_0⟩ := Kd.at_int HR4.out t485 p489 q489
                    have hw489_0 := hx489_0
                    cases e489
                    replace hx489_0 := (HB.out.cell (World.block_lt_of_cell? w _ hx489_0)).trans hx489_0
                    replace p489 := eq_true p489
                    replace q489 := eq_true q489
                    obtain ⟨Ao42, co42, eo42⟩ := Kd.R_slice HO_18.out
                    (first | subst eo42 | (injection eo42 with f1_ f2_ f3_; have f4_ := f1_.symm; have f5_ := f3_.symm; clear f1_ f2_ f3_; subst f4_; subst f5_))
                    have p490 : 0 ≤ (x19_4 : Int) := of_decide_eq_true (by first | (with_reducible assumption) | assumption)
                    have q490 : x19_4 < (t486.length : Int) := of_decide_eq_true (by first | (with_reducible assumption) | assumption)
                    obtain ⟨ad490, e490, hx490_0⟩ := Kd.at_int (Kd.R_reads' HO_18.out).2.2 x19_4 p490 q490
                    cases e490
                    replace p490 := eq_true p490
                    replace q490 := eq_true q490
                    have p491 : 0 ≤ ((rd t486 x19_4) : Int) := of_decide_eq_true (by first | (with_reducible assumption) | assumption)
                    have q491 : (rd t486 x19_4) < (l4.length : Int) := of_decide_eq_true (by first | (with_reducible assumption) | assumption)
                    obtain ⟨ad491, e491, hx491_0⟩ := Kd.at_int HR4.out (rd t486 x19_4) p491 q491
                    have hw491_0 := hx491_0
                    obtain rfl : ad489 = ad491 := (by injection e491)
                    replace hx491_0 := (HB.out.cell (World.block_lt_of_cell? w _ hx491_0)).trans hx491_0
                    replace p491 := eq_true p491
                    replace q491 := eq_true q491
                    refine start_ (n := 14) (S := fun w' => w'.cell? (ad489.add (t485).toNat) = some (.int .i64 (rd l4 t485)) ∧ w'.cell? (ad490.add (x19_4).toNat) = some (.int .i64 (rd t486 x19_4)) ∧ w'.cell? (ad489.add ((rd t486 x19_4)).toNat) = some (.int .i64 (rd l4 (rd t486 x19_4)))) (ds := []) #[n_, n_, n_, n_, n_, n_, n_, n_, n_, n_, n_, n_, n_, n_] (by kernel_rfl) rfl rfl ⟨((HB.out.cell (World.block_lt_of_cell? w _ hw489_0)).trans hw489_0), hx490_0, ((HB.out.cell (World.block_lt_of_cell? w _ hw491_0)).trans hw491_0)⟩ (fun hHeld => ?_); refine with_tabW cohousinglaw29_ChargesRight.tab15 cohousinglaw29_ChargesRight.bits15 (fun HT_ HW_ => ?_)
                    generalize wr.drew = w41 at HO_12 HO_18 HB hx489_0 hx490_0 hx491_0 hHeld ⊢
                    refine pure_ (i := 0) (N := some 86) (v := ?_) (a' := ?_) #[y_, n_, n_, n_, n_, n_, n_, n_, n_, n_, n_, n_, n_, n_] rfl rfl (any_of HT_.out (by kernel_rfl)) (fun _ _ _ h => h) (Or.inl ⟨by rfl, ?_⟩) ?_ ?_
                    rotate_left
                    ·intro w'
                     go_simp
                     with_reducible rfl
                    rotate_left
                    ·simp only [Act.put, sI_, s0_, sS_, i64_w, i32_w]
                     rfl
                    refine pure_ (i := 1) (N := some 87) (v := ?_) (a' := ?_) #[y_, y_, n_, n_, n_, n_, n_, n_, n_, n_, n_, n_, n_, n_] rfl rfl (any_of HT_.out (by kernel_rfl)) (fun _ _ _ h => h) (Or.inl ⟨by rfl, ?_⟩) ?_ ?_
                    rotate_left
                    ·intro w'
                     go_simp
                     with_reducible rfl
                    rotate_left
                    ·simp only [Act.put, sI_, s0_, sS_, i64_w, i32_w]
                     rfl
                    refine pure_ (i := 2) (N := some 88) (v := ?_) (a' := ?_) #[y_, y_, y_, n_, n_, n_, n_, n_, n_, n_, n_, n_, n_, n_] rfl rfl (any_of HT_.out (by kernel_rfl)) (fun _ _ _ h => h) (Or.inl ⟨by rfl, ?_⟩) ?_ ?_
                    rotate_left
                    ·intro w'
                     go_simp
                     with_reducible rfl
                    rotate_left
                    ·simp only [Act.put, sI_, s0_, sS_, i64_w, i32_w]
                     rfl
                    refine pure_ (i := 3) (N := some 89) (v := ?_) (a' := ?_) #[y_, y_, y_, y_, n_, n_, n_, n_, n_, n_, n_, n_, n_, n_] rfl rfl (any_of HT_.out (by kernel_rfl)) (fun _ _ _ h => h) (Or.inl ⟨by rfl, ?_⟩) ?_ ?_
                    rotate_left
                    ·intro w'
                     go_simp
                     with_reducible rfl
                    rotate_left
                    ·simp only [Act.put, sI_, s0_, sS_, i64_w, i32_w]
                     rfl
                    refine pure_ (i := 5) (N := some 91) (v := ?_) (a' := ?_) #[y_, y_, y_, y_, n_, y_, n_, n_, n_, n_, n_, n_, n_, n_] rfl rfl (any_of HT_.out (by kernel_rfl)) (fun _ _ _ h => h) (Or.inl ⟨by rfl, ?_⟩) ?_ ?_
                    rotate_left
                    ·intro w'
                     go_simp
                     with_reducible rfl
                    rotate_left
                    ·simp only [Act.put, sI_, s0_, sS_, i64_w, i32_w]
                     rfl
                    refine pure_ (i := 6) (N := some 92) (v := ?_) (a' := ?_) #[y_, y_, y_, y_, n_, y_, y_, n_, n_, n_, n_, n_, n_, n_] rfl rfl (any_of HT_.out (by kernel_rfl)) (fun _ _ _ h => h) (Or.inl ⟨by rfl, ?_⟩) ?_ ?_
                    rotate_left
                    ·intro w'
                     go_simp
                     with_reducible rfl
                    rotate_left
                    ·simp only [Act.put, sI_, s0_, sS_, i64_w, i32_w]
                     rfl
                    refine pure_ (i := 7) (N := some 93) (v := ?_) (a' := ?_) #[y_, y_, y_, y_, n_, y_, y_, y_, n_, n_, n_, n_, n_, n_] rfl rfl (any_of HT_.out (by kernel_rfl)) (fun _ _ _ h => h) (Or.inl ⟨by rfl, ?_⟩) ?_ ?_
                    rotate_left
                    ·intro w'
                     go_simp
                     with_reducible rfl
                    rotate_left
                    ·simp only [Act.put, sI_, s0_, sS_, i64_w, i32_w]
                     rfl
                    refine pure_ (i := 8) (N := some 94) (v := ?_) (a' := ?_) #[y_, y_, y_, y_, n_, y_, y_, y_, y_, n_, n_, n_, n_, n_] rfl rfl (any_of HT_.out (by kernel_rfl)) (fun _ _ _ h => h) (Or.inl ⟨by rfl, ?_⟩) ?_ ?_
                    rotate_left
                    ·intro w'
                     go_simp
                     with_reducible rfl
                    rotate_left
                    ·simp only [Act.put, sI_, s0_, sS_, i64_w, i32_w]
                     rfl
                    refine take_ (i := 4) (N := some 90) (v := ?_) (a' := ?_) #[y_, y_, y_, y_, y_, y_, y_, y_, y_, n_, n_, n_, n_, n_] rfl rfl (take_ofW HT_.out HW_.out (by kernel_rfl)) (fun _ _ _ h => h) (Or.inl ⟨by rfl, ?_⟩) hHeld ?_ ?_
                    rotate_left
                    ·rintro w' ⟨s0, s1, s2⟩
                     go_simp
                     with_reducible rfl
                    rotate_left
                    ·simp only [Act.put, sI_, s0_, sS_, i64_w, i32_w]
                     rfl
                    refine take_ (i := 9) (N := some 95) (v := ?_) (a' := ?_) #[y_, y_, y_, y_, y_, y_, y_, y_, y_, y_, n_, n_, n_, n_] rfl rfl (take_ofW HT_.out HW_.out (by kernel_rfl)) (fun _ _ _ h => h) (Or.inl ⟨by rfl, ?_⟩) hHeld ?_ ?_
                    rotate_left
                    ·rintro w' ⟨s0, s1, s2⟩
                     go_simp
                     with_reducible rfl
                    rotate_left
                    ·simp only [Act.put, sI_, s0_, sS_, i64_w, i32_w]
                     rfl
                    refine pure_ (i := 10) (N := some 96) (v := ?_) (a' := ?_) #[y_, y_, y_, y_, y_, y_, y_, y_, y_, y_, y_, n_, n_, n_] rfl rfl (any_of HT_.out (by kernel_rfl)) (fun _ _ _ h => h) (Or.inl ⟨by rfl, ?_⟩) ?_ ?_
                    rotate_left
                    ·intro w'
                     go_simp
                     with_reducible rfl
                    rotate_left
                    ·simp only [Act.put, sI_, s0_, sS_, i64_w, i32_w]
                     rfl
                    refine take_ (i := 11) (N := some 97) (v := ?_) (a' := ?_) #[y_, y_, y_, y_, y_, y_, y_, y_, y_, y_, y_, y_, n_, n_] rfl rfl (take_ofW HT_.out HW_.out (by kernel_rfl)) (fun _ _ _ h => h) (Or.inl ⟨by rfl, ?_⟩) hHeld ?_ ?_
                    rotate_left
                    ·rintro w' ⟨s0, s1, s2⟩
                     go_simp
                     with_reducible rfl
                    rotate_left
                    ·simp only [Act.put, sI_, s0_, sS_, i64_w, i32_w]
                     rfl
                    refine one_ (i := 12) (N := some 98) #[y_, y_, y_, y_, y_, y_, y_, y_, y_, y_, y_, y_, y_, n_] rfl rfl (one_of HT_.out (by kernel_rfl)) (by decide) (fun K hK => ?_)
                    refine goes_ Try.func19 (by kernel_rfl) rfl #[.int .i64 a0, .int .i64 (rd l4 t485), .int .i64 (rd l4 (rd t486 x19_4))] (by rfl) rfl rfl (by (try simp only [List.map_toArray, List.map_cons, List.map_nil]); first | done | rfl | (simp only [List.length_drop, List.length_take]; rfl)) ?_
                    with_reducible refine (cohousingref29_Right.calls k4 a0 (rd l4 t485) (rd l4 (rd t486 x19_4)) t492 _ A38.out).mono ?_
                    rintro e w43 ⟨rfl, hb⟩
                    have HS1_ := (hb.cell (World.block_lt_of_cell? _ _ (hHeld.2.1))).trans (hHeld.2.1)
                    refine ⟨_, rfl, ?_⟩
                    have n0_ := Aside0.mk (Kd.R_below (by (with_reducible repeat (first | apply Kd.R_alloc | apply Kd.R_drewN | apply Kd.R_drew)); exact HO_12.out) hb)
                    have n1_ := Aside0.mk (Kd.R_below (by (with_reducible repeat (first | apply Kd.R_alloc | apply Kd.R_drewN | apply Kd.R_drew)); exact HO_18.out) hb)
                    have n2_ := Aside0.mk (below_step (by repeat (first | (with_reducible first | exact HB.out | apply below_alloc | apply pw_below_drewN | apply below_drew1) | exact HB.out)) hb)
                    clear HO_12
                    clear HO_18
                    clear HB
                    have HO_12 := n0_
                    have HO_18 := n1_
                    have HB := n2_
                    clear n0_ n1_ n2_
                    (try clear hb)
                    (try clear hb2)
                    (try clear hk)
                    (try clear hi)
                    refine hK.out _ _ ⟨((HB.out.cell (World.block_lt_of_cell? w _ hw489_0)).trans hw489_0), HS1_, ((HB.out.cell (World.block_lt_of_cell? w _ hw491_0)).trans hw491_0)⟩ (fun hHeld => ?_)
                    clear hK K
                    refine norm_ (a' := ?_) ?_ ?_
                    rotate_left
                    ·show Act.put _ (some 98) _ = _
                     simp only [Act.put, sI_, s0_, sS_, i64_w, i32_w]
                     rfl
                    refine pure_ (i := 13) (N := some 20) (v := ?_) (a' := ?_) #[y_, y_, y_, y_, y_, y_, y_, y_, y_, y_, y_, y_, y_, y_] rfl rfl (any_of HT_.out (by kernel_rfl)) (fun _ _ _ h => h) (Or.inl ⟨by rfl, ?_⟩) ?_ ?_
                    rotate_left
                    ·intro w'
                     go_simp
                     with_reducible rfl
                    rotate_left
                    ·simp only [Act.put, sI_, s0_, sS_, i64_w, i32_w]
                     rfl
                    refine done_ (done_of HT_.out (by kernel_rfl)) ?_
                    have p493 : 0 ≤ (x19_4 : Int) := of_decide_eq_true (by first | (with_reducible assumption) | assumption)
                    have q493 : x19_4 < (t478.length : Int) := of_decide_eq_true (by first | (with_reducible assumption) | assumption)
                    obtain ⟨ad493, e493, hx493_0, hx493_1, hx493_2, hx493_3, hx493_4⟩ := at_T43 (Kd.R_reads' HO_12.out).2.2 x19_4 p493 q493
                    cases e493
                    replace p493 := eq_true p493
                    replace q493 := eq_true q493
                    try go_wp2
                    go_ret
                    exact ⟨by first | rfl | (simp [errW_none, errW_some] <;> rfl) | (simp [*, errW_none, errW_some] <;> rfl), by repeat (first | (with_reducible first | exact HB.out | apply below_alloc | apply pw_below_drewN | apply below_drew1) | exact HB.out)⟩
                   ·rw [if_neg c39] at H
                    have c39b0 : decide (t492 < ((rd_T43 t478 x19_4).f2.f0)) = false := decide_eq_false c39
                    clear c39
                    by_cases c44 : t492 > ((rd_T43 t478 x19_4).f2.f1)
                    ·rw [if_pos c44] at H
                     have c44b0 : decide (((rd_T43 t478 x19_4).f2.f1) < t492) = true := decide_eq_true c44
                     clear c44
                     obtain rfl := Option.some.inj H
                     obtain ⟨Ao45, co45, eo45⟩ := Kd.R_slice HO_12.out
                     subst eo45
                     try go_wp2
                     have n0_ := Aside0.mk (Kd.R_drew HO_12.out)
                     have n1_ := Aside0.mk (Kd.R_drew HO_18.out)
                     have n2_ := Aside0.mk (below_drew1 HB.out)
                     clear HO_12
                     clear HO_18
                     clear HB
                     have HO_12 := n0_
                     have HO_18 := n1_
                     have HB := n2_
                     clear n0_ n1_ n2_
                     have p489 : 0 ≤ (t485 : Int) := of_decide_eq_true (by first | (with_reducible assumption) | assumption)
                     have q489 : t485 < (l4.length : Int) := of_decide_eq_true (by first | (with_reducible assumption) | assumption)
                     obtain ⟨ad489, e489, hx489_0⟩ := Kd.at_int HR4.out t485 p489 q489
                     have hw489_0 := hx489_0
                     cases e489
                     replace hx489_0 := (HB.out.cell (World.block_lt_of_cell? w _ hx489_0)).trans hx489_0
                     replace p489 := eq_true p489
                     replace q489 := eq_true q489
                     obtain ⟨Ao47, co47, eo47⟩ := Kd.R_slice HO_18.out
                     (first | subst eo47 | (injection eo47 with f1_ f2_ f3_; have f4_ := f1_.symm; have f5_ := f3_.symm; clear f1_ f2_ f3_; subst f4_; subst f5_))
                     have p490 : 0 ≤ (x19_4 : Int) := of_decide_eq_true (by first | (with_reducible assumption) | assumption)
                     have q490 : x19_4 < (t486.length : Int) := of_decide_eq_true (by first | (with_reducible assumption) | assumption)
                     obtain ⟨ad490, e490, hx490_0⟩ := Kd.at_int (Kd.R_reads' HO_18.out).2.2 x19_4 p490 q490
                     cases e490
                     replace p490 := eq_true p490
                     replace q490 := eq_true q490
                     have p491 : 0 ≤ ((rd t486 x19_4) : Int) := of_decide_eq_true (by first | (with_reducible assumption) | assumption)
                     have q491 : (rd t486 x19_4) < (l4.length : Int) := of_decide_eq_true (by first | (with_reducible assumption) | assumption)
                     obtain ⟨ad491, e491, hx491_0⟩ := Kd.at_int HR4.out (rd t486 x19_4) p491 q491
                     have hw491_0 := hx491_0
                     obtain rfl : ad489 = ad491 := (by injection e491)
                     replace hx491_0 := (HB.out.cell (World.block_lt_of_cell? w _ hx491_0)).trans hx491_0
                     replace p491 := eq_true p491
                     replace q491 := eq_true q491
                     refine start_ (n := 14) (S := fun w' => w'.cell? (ad489.add (t485).toNat) = some (.int .i64 (rd l4 t485)) ∧ w'.cell? (ad490.add (x19_4).toNat) = some (.int .i64 (rd t486 x19_4)) ∧ w'.cell? (ad489.add ((rd t486 x19_4)).toNat) = some (.int .i64 (rd l4 (rd t486 x19_4)))) (ds := []) #[n_, n_, n_, n_, n_, n_, n_, n_, n_, n_, n_, n_, n_, n_] (by kernel_rfl) rfl rfl ⟨((HB.out.cell (World.block_lt_of_cell? w _ hw489_0)).trans hw489_0), hx490_0, ((HB.out.cell (World.block_lt_of_cell? w _ hw491_0)).trans hw491_0)⟩ (fun hHeld => ?_); refine with_tabW cohousinglaw29_ChargesRight.tab15 cohousinglaw29_ChargesRight.bits15 (fun HT_ HW_ => ?_)
                     generalize wr.drew = w46 at HO_12 HO_18 HB hx489_0 hx490_0 hx491_0 hHeld ⊢
                     refine pure_ (i := 0) (N := some 86) (v := ?_) (a' := ?_) #[y_, n_, n_, n_, n_, n_, n_, n_, n_, n_, n_, n_, n_, n_] rfl rfl (any_of HT_.out (by kernel_rfl)) (fun _ _ _ h => h) (Or.inl ⟨by rfl, ?_⟩) ?_ ?_
                     rotate_left
                     ·intro w'
                      go_simp
                      with_reducible rfl
                     rotate_left
                     ·simp only [Act.put, sI_, s0_, sS_, i64_w, i32_w]
                      rfl
                     refine pure_ (i := 1) (N := some 87) (v := ?_) (a' := ?_) #[y_, y_, n_, n_, n_, n_, n_, n_, n_, n_, n_, n_, n_, n_] rfl rfl (any_of HT_.out (by kernel_rfl)) (fun _ _ _ h => h) (Or.inl ⟨by rfl, ?_⟩) ?_ ?_
                     rotate_left
                     ·intro w'
                      go_simp
                      with_reducible rfl
                     rotate_left
                     ·simp only [Act.put, sI_, s0_, sS_, i64_w, i32_w]
                      rfl
                     refine pure_ (i := 2) (N := some 88) (v := ?_) (a' := ?_) #[y_, y_, y_, n_, n_, n_, n_, n_, n_, n_, n_, n_, n_, n_] rfl rfl (any_of HT_.out (by kernel_rfl)) (fun _ _ _ h => h) (Or.inl ⟨by rfl, ?_⟩) ?_ ?_
                     rotate_left
                     ·intro w'
                      go_simp
                      with_reducible rfl
                     rotate_left
                     ·simp only [Act.put, sI_, s0_, sS_, i64_w, i32_w]
                      rfl
                     refine pure_ (i := 3) (N := some 89) (v := ?_) (a' := ?_) #[y_, y_, y_, y_, n_, n_, n_, n_, n_, n_, n_, n_, n_, n_] rfl rfl (any_of HT_.out (by kernel_rfl)) (fun _ _ _ h => h) (Or.inl ⟨by rfl, ?_⟩) ?_ ?_
                     rotate_left
                     ·intro w'
                      go_simp
                      with_reducible rfl
                     rotate_left
                     ·simp only [Act.put, sI_, s0_, sS_, i64_w, i32_w]
                      rfl
                     refine pure_ (i := 5) (N := some 91) (v := ?_) (a' := ?_) #[y_, y_, y_, y_, n_, y_, n_, n_, n_, n_, n_, n_, n_, n_] rfl rfl (any_of HT_.out (by kernel_rfl)) (fun _ _ _ h => h) (Or.inl ⟨by rfl, ?_⟩) ?_ ?_
                     rotate_left
                     ·intro w'
                      go_simp
                      with_reducible rfl
                     rotate_left
                     ·simp only [Act.put, sI_, s0_, sS_, i64_w, i32_w]
                      rfl
                     refine pure_ (i := 6) (N := some 92) (v := ?_) (a' := ?_) #[y_, y_, y_, y_, n_, y_, y_, n_, n_, n_, n_, n_, n_, n_] rfl rfl (any_of HT_.out (by kernel_rfl)) (fun _ _ _ h => h) (Or.inl ⟨by rfl, ?_⟩) ?_ ?_
                     rotate_left
                     ·intro w'
                      go_simp
                      with_reducible rfl
                     rotate_left
                     ·simp only [Act.put, sI_, s0_, sS_, i64_w, i32_w]
                      rfl
                     refine pure_ (i := 7) (N := some 93) (v := ?_) (a' := ?_) #[y_, y_, y_, y_, n_, y_, y_, y_, n_, n_, n_, n_, n_, n_] rfl rfl (any_of HT_.out (by kernel_rfl)) (fun _ _ _ h => h) (Or.inl ⟨by rfl, ?_⟩) ?_ ?_
                     rotate_left
                     ·intro w'
                      go_simp
                      with_reducible rfl
                     rotate_left
                     ·simp only [Act.put, sI_, s0_, sS_, i64_w, i32_w]
                      rfl
                     refine pure_ (i := 8) (N := some 94) (v := ?_) (a' := ?_) #[y_, y_, y_, y_, n_, y_, y_, y_, y_, n_, n_, n_, n_, n_] rfl rfl (any_of HT_.out (by kernel_rfl)) (fun _ _ _ h => h) (Or.inl ⟨by rfl, ?_⟩) ?_ ?_
                     rotate_left
                     ·intro w'
                      go_simp
                      with_reducible rfl
                     rotate_left
                     ·simp only [Act.put, sI_, s0_, sS_, i64_w, i32_w]
                      rfl
                     refine take_ (i := 4) (N := some 90) (v := ?_) (a' := ?_) #[y_, y_, y_, y_, y_, y_, y_, y_, y_, n_, n_, n_, n_, n_] rfl rfl (take_ofW HT_.out HW_.out (by kernel_rfl)) (fun _ _ _ h => h) (Or.inl ⟨by rfl, ?_⟩) hHeld ?_ ?_
                     rotate_left
                     ·rintro w' ⟨s0, s1, s2⟩
                      go_simp
                      with_reducible rfl
                     rotate_left
                     ·simp only [Act.put, sI_, s0_, sS_, i64_w, i32_w]
                      rfl
                     refine take_ (i := 9) (N := some 95) (v := ?_) (a' := ?_) #[y_, y_, y_, y_, y_, y_, y_, y_, y_, y_, n_, n_, n_, n_] rfl rfl (take_ofW HT_.out HW_.out (by kernel_rfl)) (fun _ _ _ h => h) (Or.inl ⟨by rfl, ?_⟩) hHeld ?_ ?_
                     rotate_left
                     ·rintro w' ⟨s0, s1, s2⟩
                      go_simp
                      with_reducible rfl
                     rotate_left
                     ·simp only [Act.put, sI_, s0_, sS_, i64_w, i32_w]
                      rfl
                     refine pure_ (i := 10) (N := some 96) (v := ?_) (a' := ?_) #[y_, y_, y_, y_, y_, y_, y_, y_, y_, y_, y_, n_, n_, n_] rfl rfl (any_of HT_.out (by kernel_rfl)) (fun _ _ _ h => h) (Or.inl ⟨by rfl, ?_⟩) ?_ ?_
                     rotate_left
                     ·intro w'
                      go_simp
                      with_reducible rfl
                     rotate_left
                     ·simp only [Act.put, sI_, s0_, sS_, i64_w, i32_w]
                      rfl
                     refine take_ (i := 11) (N := some 97) (v := ?_) (a' := ?_) #[y_, y_, y_, y_, y_, y_, y_, y_, y_, y_, y_, y_, n_, n_] rfl rfl (take_ofW HT_.out HW_.out (by kernel_rfl)) (fun _ _ _ h => h) (Or.inl ⟨by rfl, ?_⟩) hHeld ?_ ?_
                     rotate_left
                     ·rintro w' ⟨s0, s1, s2⟩
                      go_simp
                      with_reducible rfl
                     rotate_left
                     ·simp only [Act.put, sI_, s0_, sS_, i64_w, i32_w]
                      rfl
                     refine one_ (i := 12) (N := some 98) #[y_, y_, y_, y_, y_, y_, y_, y_, y_, y_, y_, y_, y_, n_] rfl rfl (one_of HT_.out (by kernel_rfl)) (by decide) (fun K hK => ?_)
                     refine goes_ Try.func19 (by kernel_rfl) rfl #[.int .i64 a0, .int .i64 (rd l4 t485), .int .i64 (rd l4 (rd t486 x19_4))] (by rfl) rfl rfl (by (try simp only [List.map_toArray, List.map_cons, List.map_nil]); first | done | rfl | (simp only [List.length_drop, List.length_take]; rfl)) ?_
                     with_reducible refine (cohousingref29_Right.calls k4 a0 (rd l4 t485) (rd l4 (rd t486 x19_4)) t492 _ A38.out).mono ?_
                     rintro e w48 ⟨rfl, hb⟩
                     have HS1_ := (hb.cell (World.block_lt_of_cell? _ _ (hHeld.2.1))).trans (hHeld.2.1)
                     refine ⟨_, rfl, ?_⟩
                     have n0_ := Aside0.mk (Kd.R_below (by (with_reducible repeat (first | apply Kd.R_alloc | apply Kd.R_drewN | apply Kd.R_drew)); exact HO_12.out) hb)
                     have n1_ := Aside0.mk (Kd.R_below (by (with_reducible repeat (first | apply Kd.R_alloc | apply Kd.R_drewN | apply Kd.R_drew)); exact HO_18.out) hb)
                     have n2_ := Aside0.mk (below_step (by repeat (first | (with_reducible first | exact HB.out | apply below_alloc | apply pw_below_drewN | apply below_drew1) | exact HB.out)) hb)
                     clear HO_12
                     clear HO_18
                     clear HB
                     have HO_12 := n0_
                     have HO_18 := n1_
                     have HB := n2_
                     clear n0_ n1_ n2_
                     (try clear hb)
                     (try clear hb2)
                     (try clear hk)
                     (try clear hi)
                     refine hK.out _ _ ⟨((HB.out.cell (World.block_lt_of_cell? w _ hw489_0)).trans hw489_0), HS1_, ((HB.out.cell (World.block_lt_of_cell? w _ hw491_0)).trans hw491_0)⟩ (fun hHeld => ?_)
                     clear hK K
                     refine norm_ (a' := ?_) ?_ ?_
                     rotate_left
                     ·show Act.put _ (some 98) _ = _
                      simp only [Act.put, sI_, s0_, sS_, i64_w, i32_w]
                      rfl
                     refine pure_ (i := 13) (N := some 20) (v := ?_) (a' := ?_) #[y_, y_, y_, y_, y_, y_, y_, y_, y_, y_, y_, y_, y_, y_] rfl rfl (any_of HT_.out (by kernel_rfl)) (fun _ _ _ h => h) (Or.inl ⟨by rfl, ?_⟩) ?_ ?_
                     rotate_left
                     ·intro w'
                      go_simp
                      with_reducible rfl
                     rotate_left
                     ·simp only [Act.put, sI_, s0_, sS_, i64_w, i32_w]
                      rfl
                     refine done_ (done_of HT_.out (by kernel_rfl)) ?_
                     have p493 : 0 ≤ (x19_4 : Int) := of_decide_eq_true (by first | (with_reducible assumption) | assumption)
                     have q493 : x19_4 < (t478.length : Int) := of_decide_eq_true (by first | (with_reducible assumption) | assumption)
                     obtain ⟨ad493, e493, hx493_0, hx493_1, hx493_2, hx493_3, hx493_4⟩ := at_T43 (Kd.R_reads' HO_12.out).2.2 x19_4 p493 q493
                     cases e493
                     replace p493 := eq_true p493
                     replace q493 := eq_true q493
                     have p494 : 0 ≤ (x19_4 : Int) := of_decide_eq_true (by first | (with_reducible assumption) | assumption)
                     have q494 : x19_4 < (t478.length : Int) := of_decide_eq_true (by first | (with_reducible assumption) | assumption)
                     obtain ⟨ad494, e494, hx494_0, hx494_1, hx494_2, hx494_3, hx494_4⟩ := at_T43 (Kd.R_reads' HO_12.out).2.2 x19_4 p494 q494
                     obtain rfl : ad493 = ad494 := (by injection e494)
                     replace p494 := eq_true p494
                     replace q494 := eq_true q494
                     try go_wp2
                     go_ret
                     exact ⟨by first | rfl | (simp [errW_none, errW_some] <;> rfl) | (simp [*, errW_none, errW_some] <;> rfl), by repeat (first | (with_reducible first | exact HB.out | apply below_alloc | apply pw_below_drewN | apply below_drew1) | exact HB.out)⟩
                    ·rw [if_neg c44] at H
                     have c44b0 : decide (((rd_T43 t478 x19_4).f2.f1) < t492) = false := decide_eq_false c44
                     clear c44
                     obtain ⟨bq49, hbq49⟩ : ∃ b_ : Bool, b_ = ((rd_T43 t478 x19_4).f3) := ⟨_, rfl⟩
                     replace H : (if bq49 = true then (if t492 = ((rd_T43 t478 x19_4).f1) then (cohousinglaw29_ChargesRight.l0 k4 a0 l4 t476 t478 t485 t486 (wrap64 (x19_4 + 1))) else (some false)) else (cohousinglaw29_ChargesRight.l0 k4 a0 l4 t476 t478 t485 t486 (wrap64 (x19_4 + 1)))) = some r := by rw [← hbq49] at H; exact H
                     have Nbq49 := Aside0.mk hbq49
                     clear hbq49
                     by_cases c50 : bq49 = true
                     ·subst c50
                      have H1 : (if t492 = ((rd_T43 t478 x19_4).f1) then (cohousinglaw29_ChargesRight.l0 k4 a0 l4 t476 t478 t485 t486 (wrap64 (x19_4 + 1))) else (some false)) = some r := by rw [if_pos rfl] at H; exact H
                      clear H
                      have H := H1
                      clear H1
                      by_cases c51 : t492 = ((rd_T43 t478 x19_4).f1)
                      ·rw [if_pos c51] at H
                       have c51b0 : (t492 == ((rd_T43 t478 x19_4).f1)) = true := beq_iff_eq.mpr c51
                       have c51b1 : (t492 != ((rd_T43 t478 x19_4).f1)) = false := bne_eq_false_iff_eq.mpr c51
                       clear c51
                       have H' := Aside0.mk H
                       clear H
                       obtain ⟨Ao52, co52, eo52⟩ := Kd.R_slice HO_12.out
                       subst eo52
                       try go_wp2
                       have n0_ := Aside0.mk (Kd.R_drew HO_12.out)
                       have n1_ := Aside0.mk (Kd.R_drew HO_18.out)
                       have n2_ := Aside0.mk (below_drew1 HB.out)
                       clear HO_12
                       clear HO_18
                       clear HB
                       have HO_12 := n0_
                       have HO_18 := n1_
                       have HB := n2_
                       clear n0_ n1_ n2_
                       have p489 : 0 ≤ (t485 : Int) := of_decide_eq_true (by first | (with_reducible assumption) | assumption)
                       have q489 : t485 < (l4.length : Int) := of_decide_eq_true (by first | (with_reducible assumption) | assumption)
                       obtain ⟨ad489, e489, hx489_0⟩ := Kd.at_int HR4.out t485 p489 q489
                       have hw489_0 := hx489_0
                       cases e489
                       replace hx489_0 := (HB.out.cell (World.block_lt_of_cell? w _ hx489_0)).trans hx489_0
                       replace p489 := eq_true p489
                       replace q489 := eq_true q489
                       obtain ⟨Ao54, co54, eo54⟩ := Kd.R_slice HO_18.out
                       (first | subst eo54 | (injection eo54 with f1_ f2_ f3_; have f4_ := f1_.symm; have f5_ := f3_.symm; clear f1_ f2_ f3_; subst f4_; subst f5_))
                       have p490 : 0 ≤ (x19_4 : Int) := of_decide_eq_true (by first | (with_reducible assumption) | assumption)
                       have q490 : x19_4 < (t486.length : Int) := of_decide_eq_true (by first | (with_reducible assumption) | assumption)
                       obtain ⟨ad490, e490, hx490_0⟩ := Kd.at_int (Kd.R_reads' HO_18.out).2.2 x19_4 p490 q490
                       cases e490
                       replace p490 := eq_true p490
                       replace q490 := eq_true q490
                       have p491 : 0 ≤ ((rd t486 x19_4) : Int) := of_decide_eq_true (by first | (with_reducible assumption) | assumption)
                       have q491 : (rd t486 x19_4) < (l4.length : Int) := of_decide_eq_true (by first | (with_reducible assumption) | assumption)
                       obtain ⟨ad491, e491, hx491_0⟩ := Kd.at_int HR4.out (rd t486 x19_4) p491 q491
                       have hw491_0 := hx491_0
                       obtain rfl : ad489 = ad491 := (by injection e491)
                       replace hx491_0 := (HB.out.cell (World.block_lt_of_cell? w _ hx491_0)).trans hx491_0
                       replace p491 := eq_true p491
                       replace q491 := eq_true q491
                       refine start_ (n := 14) (S := fun w' => w'.cell? (ad489.add (t485).toNat) = some (.int .i64 (rd l4 t485)) ∧ w'.cell? (ad490.add (x19_4).toNat) = some (.int .i64 (rd t486 x19_4)) ∧ w'.cell? (ad489.add ((rd t486 x19_4)).toNat) = some (.int .i64 (rd l4 (rd t486 x19_4)))) (ds := []) #[n_, n_, n_, n_, n_, n_, n_, n_, n_, n_, n_, n_, n_, n_] (by kernel_rfl) rfl rfl ⟨((HB.out.cell (World.block_lt_of_cell? w _ hw489_0)).trans hw489_0), hx490_0, ((HB.out.cell (World.block_lt_of_cell? w _ hw491_0)).trans hw491_0)⟩ (fun hHeld => ?_); refine with_tabW cohousinglaw29_ChargesRight.tab15 cohousinglaw29_ChargesRight.bits15 (fun HT_ HW_ => ?_)
                       generalize wr.drew = w53 at HO_12 HO_18 HB hx489_0 hx490_0 hx491_0 hHeld ⊢
                       refine pure_ (i := 0) (N := some 86) (v := ?_) (a' := ?_) #[y_, n_, n_, n_, n_, n_, n_, n_, n_, n_, n_, n_, n_, n_] rfl rfl (any_of HT_.out (by kernel_rfl)) (fun _ _ _ h => h) (Or.inl ⟨by rfl, ?_⟩) ?_ ?_
                       rotate_left
                       ·intro w'
                        go_simp
                        with_reducible rfl
                       rotate_left
                       ·simp only [Act.put, sI_, s0_, sS_, i64_w, i32_w]
                        rfl
                       refine pure_ (i := 1) (N := some 87) (v := ?_) (a' := ?_) #[y_, y_, n_, n_, n_, n_, n_, n_, n_, n_, n_, n_, n_, n_] rfl rfl (any_of HT_.out (by kernel_rfl)) (fun _ _ _ h => h) (Or.inl ⟨by rfl, ?_⟩) ?_ ?_
                       rotate_left
                       ·intro w'
                        go_simp
                        with_reducible rfl
                       rotate_left
                       ·simp only [Act.put, sI_, s0_, sS_, i64_w, i32_w]
                        rfl
                       refine pure_ (i := 2) (N := some 88) (v := ?_) (a' := ?_) #[y_, y_, y_, n_, n_, n_, n_, n_, n_, n_, n_, n_, n_, n_] rfl rfl (any_of HT_.out (by kernel_rfl)) (fun _ _ _ h => h) (Or.inl ⟨by rfl, ?_⟩) ?_ ?_
                       rotate_left
                       ·intro w'
                        go_simp
                        with_reducible rfl
                       rotate_left
                       ·simp only [Act.put, sI_, s0_, sS_, i64_w, i32_w]
                        rfl
                       refine pure_ (i := 3) (N := some 89) (v := ?_) (a' := ?_) #[y_, y_, y_, y_, n_, n_, n_, n_, n_, n_, n_, n_, n_, n_] rfl rfl (any_of HT_.out (by kernel_rfl)) (fun _ _ _ h => h) (Or.inl ⟨by rfl, ?_⟩) ?_ ?_
                       rotate_left
                       ·intro w'
                        go_simp
                        with_reducible rfl
                       rotate_left
                       ·simp only [Act.put, sI_, s0_, sS_, i64_w, i32_w]
                        rfl
                       refine pure_ (i := 5) (N := some 91) (v := ?_) (a' := ?_) #[y_, y_, y_, y_, n_, y_, n_, n_, n_, n_, n_, n_, n_, n_] rfl rfl (any_of HT_.out (by kernel_rfl)) (fun _ _ _ h => h) (Or.inl ⟨by rfl, ?_⟩) ?_ ?_
                       rotate_left
                       ·intro w'
                        go_simp
                        with_reducible rfl
                       rotate_left
                       ·simp only [Act.put, sI_, s0_, sS_, i64_w, i32_w]
                        rfl
                       refine pure_ (i := 6) (N := some 92) (v := ?_) (a' := ?_) #[y_, y_, y_, y_, n_, y_, y_, n_, n_, n_, n_, n_, n_, n_] rfl rfl (any_of HT_.out (by kernel_rfl)) (fun _ _ _ h => h) (Or.inl ⟨by rfl, ?_⟩) ?_ ?_
                       rotate_left
                       ·intro w'
                        go_simp
                        with_reducible rfl
                       rotate_left
                       ·simp only [Act.put, sI_, s0_, sS_, i64_w, i32_w]
                        rfl
                       refine pure_ (i := 7) (N := some 93) (v := ?_) (a' := ?_) #[y_, y_, y_, y_, n_, y_, y_, y_, n_, n_, n_, n_, n_, n_] rfl rfl (any_of HT_.out (by kernel_rfl)) (fun _ _ _ h => h) (Or.inl ⟨by rfl, ?_⟩) ?_ ?_
                       rotate_left
                       ·intro w'
                        go_simp
                        with_reducible rfl
                       rotate_left
                       ·simp only [Act.put, sI_, s0_, sS_, i64_w, i32_w]
                        rfl
                       refine pure_ (i := 8) (N := some 94) (v := ?_) (a' := ?_) #[y_, y_, y_, y_, n_, y_, y_, y_, y_, n_, n_, n_, n_, n_] rfl rfl (any_of HT_.out (by kernel_rfl)) (fun _ _ _ h => h) (Or.inl ⟨by rfl, ?_⟩) ?_ ?_
                       rotate_left
                       ·intro w'
                        go_simp
                        with_reducible rfl
                       rotate_left
                       ·simp only [Act.put, sI_, s0_, sS_, i64_w, i32_w]
                        rfl
                       refine take_ (i := 4) (N := some 90) (v := ?_) (a' := ?_) #[y_, y_, y_, y_, y_, y_, y_, y_, y_, n_, n_, n_, n_, n_] rfl rfl (take_ofW HT_.out HW_.out (by kernel_rfl)) (fun _ _ _ h => h) (Or.inl ⟨by rfl, ?_⟩) hHeld ?_ ?_
                       rotate_left
                       ·rintro w' ⟨s0, s1, s2⟩
                        go_simp
                        with_reducible rfl
                       rotate_left
                       ·simp only [Act.put, sI_, s0_, sS_, i64_w, i32_w]
                        rfl
                       refine take_ (i := 9) (N := some 95) (v := ?_) (a' := ?_) #[y_, y_, y_, y_, y_, y_, y_, y_, y_, y_, n_, n_, n_, n_] rfl rfl (take_ofW HT_.out HW_.out (by kernel_rfl)) (fun _ _ _ h => h) (Or.inl ⟨by rfl, ?_⟩) hHeld ?_ ?_
                       rotate_left
                       ·rintro w' ⟨s0, s1, s2⟩
                        go_simp
                        with_reducible rfl
                       rotate_left
                       ·simp only [Act.put, sI_, s0_, sS_, i64_w, i32_w]
                        rfl
                       refine pure_ (i := 10) (N := some 96) (v := ?_) (a' := ?_) #[y_, y_, y_, y_, y_, y_, y_, y_, y_, y_, y_, n_, n_, n_] rfl rfl (any_of HT_.out (by kernel_rfl)) (fun _ _ _ h => h) (Or.inl ⟨by rfl, ?_⟩) ?_ ?_
                       rotate_left
                       ·intro w'
                        go_simp
                        with_reducible rfl
                       rotate_left
                       ·simp only [Act.put, sI_, s0_, sS_, i64_w, i32_w]
                        rfl
                       refine take_ (i := 11) (N := some 97) (v := ?_) (a' := ?_) #[y_, y_, y_, y_, y_, y_, y_, y_, y_, y_, y_, y_, n_, n_] rfl rfl (take_ofW HT_.out HW_.out (by kernel_rfl)) (fun _ _ _ h => h) (Or.inl ⟨by rfl, ?_⟩) hHeld ?_ ?_
                       rotate_left
                       ·rintro w' ⟨s0, s1, s2⟩
                        go_simp
                        with_reducible rfl
                       rotate_left
                       ·simp only [Act.put, sI_, s0_, sS_, i64_w, i32_w]
                        rfl
                       refine one_ (i := 12) (N := some 98) #[y_, y_, y_, y_, y_, y_, y_, y_, y_, y_, y_, y_, y_, n_] rfl rfl (one_of HT_.out (by kernel_rfl)) (by decide) (fun K hK => ?_)
                       refine goes_ Try.func19 (by kernel_rfl) rfl #[.int .i64 a0, .int .i64 (rd l4 t485), .int .i64 (rd l4 (rd t486 x19_4))] (by rfl) rfl rfl (by (try simp only [List.map_toArray, List.map_cons, List.map_nil]); first | done | rfl | (simp only [List.length_drop, List.length_take]; rfl)) ?_
                       with_reducible refine (cohousingref29_Right.calls k4 a0 (rd l4 t485) (rd l4 (rd t486 x19_4)) t492 _ A38.out).mono ?_
                       rintro e w55 ⟨rfl, hb⟩
                       have HS1_ := (hb.cell (World.block_lt_of_cell? _ _ (hHeld.2.1))).trans (hHeld.2.1)
                       refine ⟨_, rfl, ?_⟩
                       have n0_ := Aside0.mk (Kd.R_below (by (with_reducible repeat (first | apply Kd.R_alloc | apply Kd.R_drewN | apply Kd.R_drew)); exact HO_12.out) hb)
                       have n1_ := Aside0.mk (Kd.R_below (by (with_reducible repeat (first | apply Kd.R_alloc | apply Kd.R_drewN | apply Kd.R_drew)); exact HO_18.out) hb)
                       have n2_ := Aside0.mk (below_step (by repeat (first | (with_reducible first | exact HB.out | apply below_alloc | apply pw_below_drewN | apply below_drew1) | exact HB.out)) hb)
                       clear HO_12
                       clear HO_18
                       clear HB
                       have HO_12 := n0_
                       have HO_18 := n1_
                       have HB := n2_
                       clear n0_ n1_ n2_
                       (try clear hb)
                       (try clear hb2)
                       (try clear hk)
                       (try clear hi)
                       refine hK.out _ _ ⟨((HB.out.cell (World.block_lt_of_cell? w _ hw489_0)).trans hw489_0), HS1_, ((HB.out.cell (World.block_lt_of_cell? w _ hw491_0)).trans hw491_0)⟩ (fun hHeld => ?_)
                       clear hK K
                       refine norm_ (a' := ?_) ?_ ?_
                       rotate_left
                       ·show Act.put _ (some 98) _ = _
                        simp only [Act.put, sI_, s0_, sS_, i64_w, i32_w]
                        rfl
                       refine pure_ (i := 13) (N := some 20) (v := ?_) (a' := ?_) #[y_, y_, y_, y_, y_, y_, y_, y_, y_, y_, y_, y_, y_, y_] rfl rfl (any_of HT_.out (by kernel_rfl)) (fun _ _ _ h => h) (Or.inl ⟨by rfl, ?_⟩) ?_ ?_
                       rotate_left
                       ·intro w'
                        go_simp
                        with_reducible rfl
                       rotate_left
                       ·simp only [Act.put, sI_, s0_, sS_, i64_w, i32_w]
                        rfl
                       refine done_ (done_of HT_.out (by kernel_rfl)) ?_
                       have p493 : 0 ≤ (x19_4 : Int) := of_decide_eq_true (by first | (with_reducible assumption) | assumption)
                       have q493 : x19_4 < (t478.length : Int) := of_decide_eq_true (by first | (with_reducible assumption) | assumption)
                       obtain ⟨ad493, e493, hx493_0, hx493_1, hx493_2, hx493_3, hx493_4⟩ := at_T43 (Kd.R_reads' HO_12.out).2.2 x19_4 p493 q493
                       (try rw [← Nbq49.out] at hx493_4)
                       cases e493
                       replace p493 := eq_true p493
                       replace q493 := eq_true q493
                       have p494 : 0 ≤ (x19_4 : Int) := of_decide_eq_true (by first | (with_reducible assumption) | assumption)
                       have q494 : x19_4 < (t478.length : Int) := of_decide_eq_true (by first | (with_reducible assumption) | assumption)
                       obtain ⟨ad494, e494, hx494_0, hx494_1, hx494_2, hx494_3, hx494_4⟩ := at_T43 (Kd.R_reads' HO_12.out).2.2 x19_4 p494 q494
                       (try rw [← Nbq49.out] at hx494_4)
                       obtain rfl : ad493 = ad494 := (by injection e494)
                       replace p494 := eq_true p494
                       replace q494 := eq_true q494
                       have p495 : 0 ≤ (x19_4 : Int) := of_decide_eq_true (by first | (with_reducible assumption) | assumption)
                       have q495 : x19_4 < (t478.length : Int) := of_decide_eq_true (by first | (with_reducible assumption) | assumption)
                       obtain ⟨ad495, e495, hx495_0, hx495_1, hx495_2, hx495_3, hx495_4⟩ := at_T43 (Kd.R_reads' HO_12.out).2.2 x19_4 p495 q495
                       (try rw [← Nbq49.out] at hx495_4)
                       obtain rfl : ad493 = ad495 := (by injection e495)
                       replace p495 := eq_true p495
                       replace q495 := eq_true q495
                       have p496 : 0 ≤ (x19_4 : Int) := of_decide_eq_true (by first | (with_reducible assumption) | assumption)
                       have q496 : x19_4 < (t478.length : Int) := of_decide_eq_true (by first | (with_reducible assumption) | assumption)
                       obtain ⟨ad496, e496, hx496_0, hx496_1, hx496_2, hx496_3, hx496_4⟩ := at_T43 (Kd.R_reads' HO_12.out).2.2 x19_4 p496 q496
                       (try rw [← Nbq49.out] at hx496_4)
                       obtain rfl : ad493 = ad496 := (by injection e496)
                       replace p496 := eq_true p496
                       replace q496 := eq_true q496
                       try go_wp2
                       go_roundg k4
                       case measure => have := HJ6.out; have := HJ13.out; have := HJ21.out; have := HK4.out; omega
                       case rel => exact ⟨(wrap64 (x19_4 + 1)), (by first | rfl | (simp; done) | (simp [*]; done)), H', ⟨by have := HJ6.out; have := HJ13.out; have := HJ21.out; have := HK4.out; omega⟩, ⟨by (with_reducible repeat (first | apply Kd.R_alloc | apply Kd.R_drewN | apply Kd.R_drew)); exact HO_12.out⟩, ⟨by (with_reducible repeat (first | apply Kd.R_alloc | apply Kd.R_drewN | apply Kd.R_drew)); exact HO_18.out⟩, ⟨by repeat (first | (with_reducible first | exact HB.out | apply below_alloc | apply pw_below_drewN | apply below_drew1) | exact HB.out)⟩⟩
                      ·rw [if_neg c51] at H
                       have c51b0 : (t492 == ((rd_T43 t478 x19_4).f1)) = false := beq_eq_false_iff_ne.mpr c51
                       have c51b1 : (t492 != ((rd_T43 t478 x19_4).f1)) = true := bne_iff_ne.mpr c51
                       obtain rfl := Option.some.inj H
                       obtain ⟨Ao56, co56, eo56⟩ := Kd.R_slice HO_12.out
                       subst eo56
                       try go_wp2
                       have n0_ := Aside0.mk (Kd.R_drew HO_12.out)
                       have n1_ := Aside0.mk (Kd.R_drew HO_18.out)
                       have n2_ := Aside0.mk (below_drew1 HB.out)
                       clear HO_12
                       clear HO_18
                       clear HB
                       have HO_12 := n0_
                       have HO_18 := n1_
                       have HB := n2_
                       clear n0_ n1_ n2_
                       have p489 : 0 ≤ (t485 : Int) := of_decide_eq_true (by first | (with_reducible assumption) | assumption)
                       have q489 : t485 < (l4.length : Int) := of_decide_eq_true (by first | (with_reducible assumption) | assumption)
                       obtain ⟨ad489, e489, hx489_0⟩ := Kd.at_int HR4.out t485 p489 q489
                       have hw489_0 := hx489_0
                       cases e489
                       replace hx489_0 := (HB.out.cell (World.block_lt_of_cell? w _ hx489_0)).trans hx489_0
                       replace p489 := eq_true p489
                       replace q489 := eq_true q489
                       obtain ⟨Ao58, co58, eo58⟩ := Kd.R_slice HO_18.out
                       (first | subst eo58 | (injection eo58 with f1_ f2_ f3_; have f4_ := f1_.symm; have f5_ := f3_.symm; clear f1_ f2_ f3_; subst f4_; subst f5_))
                       have p490 : 0 ≤ (x19_4 : Int) := of_decide_eq_true (by first | (with_reducible assumption) | assumption)
                       have q490 : x19_4 < (t486.length : Int) := of_decide_eq_true (by first | (with_reducible assumption) | assumption)
                       obtain ⟨ad490, e490, hx490_0⟩ := Kd.at_int (Kd.R_reads' HO_18.out).2.2 x19_4 p490 q490
                       cases e490
                       replace p490 := eq_true p490
                       replace q490 := eq_true q490
                       have p491 : 0 ≤ ((rd t486 x19_4) : Int) := of_decide_eq_true (by first | (with_reducible assumption) | assumption)
                       have q491 : (rd t486 x19_4) < (l4.length : Int) := of_decide_eq_true (by first | (with_reducible assumption) | assumption)
                       obtain ⟨ad491, e491, hx491_0⟩ := Kd.at_int HR4.out (rd t486 x19_4) p491 q491
                       have hw491_0 := hx491_0
                       obtain rfl : ad489 = ad491 := (by injection e491)
                       replace hx491_0 := (HB.out.cell (World.block_lt_of_cell? w _ hx491_0)).trans hx491_0
                       replace p491 := eq_true p491
                       replace q491 := eq_true q491
                       refine start_ (n := 14) (S := fun w' => w'.cell? (ad489.add (t485).toNat) = some (.int .i64 (rd l4 t485)) ∧ w'.cell? (ad490.add (x19_4).toNat) = some (.int .i64 (rd t486 x19_4)) ∧ w'.cell? (ad489.add ((rd t486 x19_4)).toNat) = some (.int .i64 (rd l4 (rd t486 x19_4)))) (ds := []) #[n_, n_, n_, n_, n_, n_, n_, n_, n_, n_, n_, n_, n_, n_] (by kernel_rfl) rfl rfl ⟨((HB.out.cell (World.block_lt_of_cell? w _ hw489_0)).trans hw489_0), hx490_0, ((HB.out.cell (World.block_lt_of_cell? w _ hw491_0)).trans hw491_0)⟩ (fun hHeld => ?_); refine with_tabW cohousinglaw29_ChargesRight.tab15 cohousinglaw29_ChargesRight.bits15 (fun HT_ HW_ => ?_)
                       generalize wr.drew = w57 at HO_12 HO_18 HB hx489_0 hx490_0 hx491_0 hHeld ⊢
                       refine pure_ (i := 0) (N := some 86) (v := ?_) (a' := ?_) #[y_, n_, n_, n_, n_, n_, n_, n_, n_, n_, n_, n_, n_, n_] rfl rfl (any_of HT_.out (by kernel_rfl)) (fun _ _ _ h => h) (Or.inl ⟨by rfl, ?_⟩) ?_ ?_
                       rotate_left
                       ·intro w'
                        go_simp
                        with_reducible rfl
                       rotate_left
                       ·simp only [Act.put, sI_, s0_, sS_, i64_w, i32_w]
                        rfl
                       refine pure_ (i := 1) (N := some 87) (v := ?_) (a' := ?_) #[y_, y_, n_, n_, n_, n_, n_, n_, n_, n_, n_, n_, n_, n_] rfl rfl (any_of HT_.out (by kernel_rfl)) (fun _ _ _ h => h) (Or.inl ⟨by rfl, ?_⟩) ?_ ?_
                       rotate_left
                       ·intro w'
                        go_simp
                        with_reducible rfl
                       rotate_left
                       ·simp only [Act.put, sI_, s0_, sS_, i64_w, i32_w]
                        rfl
                       refine pure_ (i := 2) (N := some 88) (v := ?_) (a' := ?_) #[y_, y_, y_, n_, n_, n_, n_, n_, n_, n_, n_, n_, n_, n_] rfl rfl (any_of HT_.out (by kernel_rfl)) (fun _ _ _ h => h) (Or.inl ⟨by rfl, ?_⟩) ?_ ?_
                       rotate_left
                       ·intro w'
                        go_simp
                        with_reducible rfl
                       rotate_left
                       ·simp only [Act.put, sI_, s0_, sS_, i64_w, i32_w]
                        rfl
                       refine pure_ (i := 3) (N := some 89) (v := ?_) (a' := ?_) #[y_, y_, y_, y_, n_, n_, n_, n_, n_, n_, n_, n_, n_, n_] rfl rfl (any_of HT_.out (by kernel_rfl)) (fun _ _ _ h => h) (Or.inl ⟨by rfl, ?_⟩) ?_ ?_
                       rotate_left
                       ·intro w'
                        go_simp
                        with_reducible rfl
                       rotate_left
                       ·simp only [Act.put, sI_, s0_, sS_, i64_w, i32_w]
                        rfl
                       refine pure_ (i := 5) (N := some 91) (v := ?_) (a' := ?_) #[y_, y_, y_, y_, n_, y_, n_, n_, n_, n_, n_, n_, n_, n_] rfl rfl (any_of HT_.out (by kernel_rfl)) (fun _ _ _ h => h) (Or.inl ⟨by rfl, ?_⟩) ?_ ?_
                       rotate_left
                       ·intro w'
                        go_simp
                        with_reducible rfl
                       rotate_left
                       ·simp only [Act.put, sI_, s0_, sS_, i64_w, i32_w]
                        rfl
                       refine pure_ (i := 6) (N := some 92) (v := ?_) (a' := ?_) #[y_, y_, y_, y_, n_, y_, y_, n_, n_, n_, n_, n_, n_, n_] rfl rfl (any_of HT_.out (by kernel_rfl)) (fun _ _ _ h => h) (Or.inl ⟨by rfl, ?_⟩) ?_ ?_
                       rotate_left
                       ·intro w'
                        go_simp
                        with_reducible rfl
                       rotate_left
                       ·simp only [Act.put, sI_, s0_, sS_, i64_w, i32_w]
                        rfl
                       refine pure_ (i := 7) (N := some 93) (v := ?_) (a' := ?_) #[y_, y_, y_, y_, n_, y_, y_, y_, n_, n_, n_, n_, n_, n_] rfl rfl (any_of HT_.out (by kernel_rfl)) (fun _ _ _ h => h) (Or.inl ⟨by rfl, ?_⟩) ?_ ?_
                       rotate_left
                       ·intro w'
                        go_simp
                        with_reducible rfl
                       rotate_left
                       ·simp only [Act.put, sI_, s0_, sS_, i64_w, i32_w]
                        rfl
                       refine pure_ (i := 8) (N := some 94) (v := ?_) (a' := ?_) #[y_, y_, y_, y_, n_, y_, y_, y_, y_, n_, n_, n_, n_, n_] rfl rfl (any_of HT_.out (by kernel_rfl)) (fun _ _ _ h => h) (Or.inl ⟨by rfl, ?_⟩) ?_ ?_
                       rotate_left
                       ·intro w'
                        go_simp
                        with_reducible rfl
                       rotate_left
                       ·simp only [Act.put, sI_, s0_, sS_, i64_w, i32_w]
                        rfl
                       refine take_ (i := 4) (N := some 90) (v := ?_) (a' := ?_) #[y_, y_, y_, y_, y_, y_, y_, y_, y_, n_, n_, n_, n_, n_] rfl rfl (take_ofW HT_.out HW_.out (by kernel_rfl)) (fun _ _ _ h => h) (Or.inl ⟨by rfl, ?_⟩) hHeld ?_ ?_
                       rotate_left
                       ·rintro w' ⟨s0, s1, s2⟩
                        go_simp
                        with_reducible rfl
                       rotate_left
                       ·simp only [Act.put, sI_, s0_, sS_, i64_w, i32_w]
                        rfl
                       refine take_ (i := 9) (N := some 95) (v := ?_) (a' := ?_) #[y_, y_, y_, y_, y_, y_, y_, y_, y_, y_, n_, n_, n_, n_] rfl rfl (take_ofW HT_.out HW_.out (by kernel_rfl)) (fun _ _ _ h => h) (Or.inl ⟨by rfl, ?_⟩) hHeld ?_ ?_
                       rotate_left
                       ·rintro w' ⟨s0, s1, s2⟩
                        go_simp
                        with_reducible rfl
                       rotate_left
                       ·simp only [Act.put, sI_, s0_, sS_, i64_w, i32_w]
                        rfl
                       refine pure_ (i := 10) (N := some 96) (v := ?_) (a' := ?_) #[y_, y_, y_, y_, y_, y_, y_, y_, y_, y_, y_, n_, n_, n_] rfl rfl (any_of HT_.out (by kernel_rfl)) (fun _ _ _ h => h) (Or.inl ⟨by rfl, ?_⟩) ?_ ?_
                       rotate_left
                       ·intro w'
                        go_simp
                        with_reducible rfl
                       rotate_left
                       ·simp only [Act.put, sI_, s0_, sS_, i64_w, i32_w]
                        rfl
                       refine take_ (i := 11) (N := some 97) (v := ?_) (a' := ?_) #[y_, y_, y_, y_, y_, y_, y_, y_, y_, y_, y_, y_, n_, n_] rfl rfl (take_ofW HT_.out HW_.out (by kernel_rfl)) (fun _ _ _ h => h) (Or.inl ⟨by rfl, ?_⟩) hHeld ?_ ?_
                       rotate_left
                       ·rintro w' ⟨s0, s1, s2⟩
                        go_simp
                        with_reducible rfl
                       rotate_left
                       ·simp only [Act.put, sI_, s0_, sS_, i64_w, i32_w]
                        rfl
                       refine one_ (i := 12) (N := some 98) #[y_, y_, y_, y_, y_, y_, y_, y_, y_, y_, y_, y_, y_, n_] rfl rfl (one_of HT_.out (by kernel_rfl)) (by decide) (fun K hK => ?_)
                       refine goes_ Try.func19 (by kernel_rfl) rfl #[.int .i64 a0, .int .i64 (rd l4 t485), .int .i64 (rd l4 (rd t486 x19_4))] (by rfl) rfl rfl (by (try simp only [List.map_toArray, List.map_cons, List.map_nil]); first | done | rfl | (simp only [List.length_drop, List.length_take]; rfl)) ?_
                       with_reducible refine (cohousingref29_Right.calls k4 a0 (rd l4 t485) (rd l4 (rd t486 x19_4)) t492 _ A38.out).mono ?_
                       rintro e w59 ⟨rfl, hb⟩
                       have HS1_ := (hb.cell (World.block_lt_of_cell? _ _ (hHeld.2.1))).trans (hHeld.2.1)
                       refine ⟨_, rfl, ?_⟩
                       have n0_ := Aside0.mk (Kd.R_below (by (with_reducible repeat (first | apply Kd.R_alloc | apply Kd.R_drewN | apply Kd.R_drew)); exact HO_12.out) hb)
                       have n1_ := Aside0.mk (Kd.R_below (by (with_reducible repeat (first | apply Kd.R_alloc | apply Kd.R_drewN | apply Kd.R_drew)); exact HO_18.out) hb)
                       have n2_ := Aside0.mk (below_step (by repeat (first | (with_reducible first | exact HB.out | apply below_alloc | apply pw_below_drewN | apply below_drew1) | exact HB.out)) hb)
                       clear HO_12
                       clear HO_18
                       clear HB
                       have HO_12 := n0_
                       have HO_18 := n1_
                       have HB := n2_
                       clear n0_ n1_ n2_
                       (try clear hb)
                       (try clear hb2)
                       (try clear hk)
                       (try clear hi)
                       refine hK.out _ _ ⟨((HB.out.cell (World.block_lt_of_cell? w _ hw489_0)).trans hw489_0), HS1_, ((HB.out.cell (World.block_lt_of_cell? w _ hw491_0)).trans hw491_0)⟩ (fun hHeld => ?_)
                       clear hK K
                       refine norm_ (a' := ?_) ?_ ?_
                       rotate_left
                       ·show Act.put _ (some 98) _ = _
                        simp only [Act.put, sI_, s0_, sS_, i64_w, i32_w]
                        rfl
                       refine pure_ (i := 13) (N := some 20) (v := ?_) (a' := ?_) #[y_, y_, y_, y_, y_, y_, y_, y_, y_, y_, y_, y_, y_, y_] rfl rfl (any_of HT_.out (by kernel_rfl)) (fun _ _ _ h => h) (Or.inl ⟨by rfl, ?_⟩) ?_ ?_
                       rotate_left
                       ·intro w'
                        go_simp
                        with_reducible rfl
                       rotate_left
                       ·simp only [Act.put, sI_, s0_, sS_, i64_w, i32_w]
                        rfl
                       refine done_ (done_of HT_.out (by kernel_rfl)) ?_
                       have p493 : 0 ≤ (x19_4 : Int) := of_decide_eq_true (by first | (with_reducible assumption) | assumption)
                       have q493 : x19_4 < (t478.length : Int) := of_decide_eq_true (by first | (with_reducible assumption) | assumption)
                       obtain ⟨ad493, e493, hx493_0, hx493_1, hx493_2, hx493_3, hx493_4⟩ := at_T43 (Kd.R_reads' HO_12.out).2.2 x19_4 p493 q493
                       (try rw [← Nbq49.out] at hx493_4)
                       cases e493
                       replace p493 := eq_true p493
                       replace q493 := eq_true q493
                       have p494 : 0 ≤ (x19_4 : Int) := of_decide_eq_true (by first | (with_reducible assumption) | assumption)
                       have q494 : x19_4 < (t478.length : Int) := of_decide_eq_true (by first | (with_reducible assumption) | assumption)
                       obtain ⟨ad494, e494, hx494_0, hx494_1, hx494_2, hx494_3, hx494_4⟩ := at_T43 (Kd.R_reads' HO_12.out).2.2 x19_4 p494 q494
                       (try rw [← Nbq49.out] at hx494_4)
                       obtain rfl : ad493 = ad494 := (by injection e494)
                       replace p494 := eq_true p494
                       replace q494 := eq_true q494
                       have p495 : 0 ≤ (x19_4 : Int) := of_decide_eq_true (by first | (with_reducible assumption) | assumption)
                       have q495 : x19_4 < (t478.length : Int) := of_decide_eq_true (by first | (with_reducible assumption) | assumption)
                       obtain ⟨ad495, e495, hx495_0, hx495_1, hx495_2, hx495_3, hx495_4⟩ := at_T43 (Kd.R_reads' HO_12.out).2.2 x19_4 p495 q495
                       (try rw [← Nbq49.out] at hx495_4)
                       obtain rfl : ad493 = ad495 := (by injection e495)
                       replace p495 := eq_true p495
                       replace q495 := eq_true q495
                       have p496 : 0 ≤ (x19_4 : Int) := of_decide_eq_true (by first | (with_reducible assumption) | assumption)
                       have q496 : x19_4 < (t478.length : Int) := of_decide_eq_true (by first | (with_reducible assumption) | assumption)
                       obtain ⟨ad496, e496, hx496_0, hx496_1, hx496_2, hx496_3, hx496_4⟩ := at_T43 (Kd.R_reads' HO_12.out).2.2 x19_4 p496 q496
                       (try rw [← Nbq49.out] at hx496_4)
                       obtain rfl : ad493 = ad496 := (by injection e496)
                       replace p496 := eq_true p496
                       replace q496 := eq_true q496
                       try go_wp2
                       go_ret
                       exact ⟨by first | rfl | (simp [errW_none, errW_some] <;> rfl) | (simp [*, errW_none, errW_some] <;> rfl), by repeat (first | (with_reducible first | exact HB.out | apply below_alloc | apply pw_below_drewN | apply below_drew1) | exact HB.out)⟩
                     ·replace c50 := Bool.eq_false_iff.mpr c50
                      subst c50
                      have H1 : (cohousinglaw29_ChargesRight.l0 k4 a0 l4 t476 t478 t485 t486 (wrap64 (x19_4 + 1))) = some r := by rw [if_neg (show ¬ (false = true) by decide)] at H; exact H
                      clear H
                      have H := H1
                      clear H1
                      have H' := Aside0.mk H
                      clear H
                      obtain ⟨Ao60, co60, eo60⟩ := Kd.R_slice HO_12.out
                      subst eo60
                      try go_wp2
                      have n0_ := Aside0.mk (Kd.R_drew HO_12.out)
                      have n1_ := Aside0.mk (Kd.R_drew HO_18.out)
                      have n2_ := Aside0.mk (below_drew1 HB.out)
                      clear HO_12
                      clear HO_18
                      clear HB
                      have HO_12 := n0_
                      have HO_18 := n1_
                      have HB := n2_
                      clear n0_ n1_ n2_
                      have p489 : 0 ≤ (t485 : Int) := of_decide_eq_true (by first | (with_reducible assumption) | assumption)
                      have q489 : t485 < (l4.length : Int) := of_decide_eq_true (by first | (with_reducible assumption) | assumption)
                      obtain ⟨ad489, e489, hx489_0⟩ := Kd.at_int HR4.out t485 p489 q489
                      have hw489_0 := hx489_0
                      cases e489
                      replace hx489_0 := (HB.out.cell (World.block_lt_of_cell? w _ hx489_0)).trans hx489_0
                      replace p489 := eq_true p489
                      replace q489 := eq_true q489
                      obtain ⟨Ao62, co62, eo62⟩ := Kd.R_slice HO_18.out
                      (first | subst eo62 | (injection eo62 with f1_ f2_ f3_; have f4_ := f1_.symm; have f5_ := f3_.symm; clear f1_ f2_ f3_; subst f4_; subst f5_))
                      have p490 : 0 ≤ (x19_4 : Int) := of_decide_eq_true (by first | (with_reducible assumption) | assumption)
                      have q490 : x19_4 < (t486.length : Int) := of_decide_eq_true (by first | (with_reducible assumption) | assumption)
                      obtain ⟨ad490, e490, hx490_0⟩ := Kd.at_int (Kd.R_reads' HO_18.out).2.2 x19_4 p490 q490
                      cases e490
                      replace p490 := eq_true p490
                      replace q490 := eq_true q490
                      have p491 : 0 ≤ ((rd t486 x19_4) : Int) := of_decide_eq_true (by first | (with_reducible assumption) | assumption)
                      have q491 : (rd t486 x19_4) < (l4.length : Int) := of_decide_eq_true (by first | (with_reducible assumption) | assumption)
                      obtain ⟨ad491, e491, hx491_0⟩ := Kd.at_int HR4.out (rd t486 x19_4) p491 q491
                      have hw491_0 := hx491_0
                      obtain rfl : ad489 = ad491 := (by injection e491)
                      replace hx491_0 := (HB.out.cell (World.block_lt_of_cell? w _ hx491_0)).trans hx491_0
                      replace p491 := eq_true p491
                      replace q491 := eq_true q491
                      refine start_ (n := 14) (S := fun w' => w'.cell? (ad489.add (t485).toNat) = some (.int .i64 (rd l4 t485)) ∧ w'.cell? (ad490.add (x19_4).toNat) = some (.int .i64 (rd t486 x19_4)) ∧ w'.cell? (ad489.add ((rd t486 x19_4)).toNat) = some (.int .i64 (rd l4 (rd t486 x19_4)))) (ds := []) #[n_, n_, n_, n_, n_, n_, n_, n_, n_, n_, n_, n_, n_, n_] (by kernel_rfl) rfl rfl ⟨((HB.out.cell (World.block_lt_of_cell? w _ hw489_0)).trans hw489_0), hx490_0, ((HB.out.cell (World.block_lt_of_cell? w _ hw491_0)).trans hw491_0)⟩ (fun hHeld => ?_); refine with_tabW cohousinglaw29_ChargesRight.tab15 cohousinglaw29_ChargesRight.bits15 (fun HT_ HW_ => ?_)
                      generalize wr.drew = w61 at HO_12 HO_18 HB hx489_0 hx490_0 hx491_0 hHeld ⊢
                      refine pure_ (i := 0) (N := some 86) (v := ?_) (a' := ?_) #[y_, n_, n_, n_, n_, n_, n_, n_, n_, n_, n_, n_, n_, n_] rfl rfl (any_of HT_.out (by kernel_rfl)) (fun _ _ _ h => h) (Or.inl ⟨by rfl, ?_⟩) ?_ ?_
                      rotate_left
                      ·intro w'
                       go_simp
                       with_reducible rfl
                      rotate_left
                      ·simp only [Act.put, sI_, s0_, sS_, i64_w, i32_w]
                       rfl
                      refine pure_ (i := 1) (N := some 87) (v := ?_) (a' := ?_) #[y_, y_, n_, n_, n_, n_, n_, n_, n_, n_, n_, n_, n_, n_] rfl rfl (any_of HT_.out (by kernel_rfl)) (fun _ _ _ h => h) (Or.inl ⟨by rfl, ?_⟩) ?_ ?_
                      rotate_left
                      ·intro w'
                       go_simp
                       with_reducible rfl
                      rotate_left
                      ·simp only [Act.put, sI_, s0_, sS_, i64_w, i32_w]
                       rfl
                      refine pure_ (i := 2) (N := some 88) (v := ?_) (a' := ?_) #[y_, y_, y_, n_, n_, n_, n_, n_, n_, n_, n_, n_, n_, n_] rfl rfl (any_of HT_.out (by kernel_rfl)) (fun _ _ _ h => h) (Or.inl ⟨by rfl, ?_⟩) ?_ ?_
                      rotate_left
                      ·intro w'
                       go_simp
                       with_reducible rfl
                      rotate_left
                      ·simp only [Act.put, sI_, s0_, sS_, i64_w, i32_w]
                       rfl
                      refine pure_ (i := 3) (N := some 89) (v := ?_) (a' := ?_) #[y_, y_, y_, y_, n_, n_, n_, n_, n_, n_, n_, n_, n_, n_] rfl rfl (any_of HT_.out (by kernel_rfl)) (fun _ _ _ h => h) (Or.inl ⟨by rfl, ?_⟩) ?_ ?_
                      rotate_left
                      ·intro w'
                       go_simp
                       with_reducible rfl
                      rotate_left
                      ·simp only [Act.put, sI_, s0_, sS_, i64_w, i32_w]
                       rfl
                      refine pure_ (i := 5) (N := some 91) (v := ?_) (a' := ?_) #[y_, y_, y_, y_, n_, y_, n_, n_, n_, n_, n_, n_, n_, n_] rfl rfl (any_of HT_.out (by kernel_rfl)) (fun _ _ _ h => h) (Or.inl ⟨by rfl, ?_⟩) ?_ ?_
                      rotate_left
                      ·intro w'
                       go_simp
                       with_reducible rfl
                      rotate_left
                      ·simp only [Act.put, sI_, s0_, sS_, i64_w, i32_w]
                       rfl
                      refine pure_ (i := 6) (N := some 92) (v := ?_) (a' := ?_) #[y_, y_, y_, y_, n_, y_, y_, n_, n_, n_, n_, n_, n_, n_] rfl rfl (any_of HT_.out (by kernel_rfl)) (fun _ _ _ h => h) (Or.inl ⟨by rfl, ?_⟩) ?_ ?_
                      rotate_left
                      ·intro w'
                       go_simp
                       with_reducible rfl
                      rotate_left
                      ·simp only [Act.put, sI_, s0_, sS_, i64_w, i32_w]
                       rfl
                      refine pure_ (i := 7) (N := some 93) (v := ?_) (a' := ?_) #[y_, y_, y_, y_, n_, y_, y_, y_, n_, n_, n_, n_, n_, n_] rfl rfl (any_of HT_.out (by kernel_rfl)) (fun _ _ _ h => h) (Or.inl ⟨by rfl, ?_⟩) ?_ ?_
                      rotate_left
                      ·intro w'
                       go_simp
                       with_reducible rfl
                      rotate_left
                      ·simp only [Act.put, sI_, s0_, sS_, i64_w, i32_w]
                       rfl
                      refine pure_ (i := 8) (N := some 94) (v := ?_) (a' := ?_) #[y_, y_, y_, y_, n_, y_, y_, y_, y_, n_, n_, n_, n_, n_] rfl rfl (any_of HT_.out (by kernel_rfl)) (fun _ _ _ h => h) (Or.inl ⟨by rfl, ?_⟩) ?_ ?_
                      rotate_left
                      ·intro w'
                       go_simp
                       with_reducible rfl
                      rotate_left
                      ·simp only [Act.put, sI_, s0_, sS_, i64_w, i32_w]
                       rfl
                      refine take_ (i := 4) (N := some 90) (v := ?_) (a' := ?_) #[y_, y_, y_, y_, y_, y_, y_, y_, y_, n_, n_, n_, n_, n_] rfl rfl (take_ofW HT_.out HW_.out (by kernel_rfl)) (fun _ _ _ h => h) (Or.inl ⟨by rfl, ?_⟩) hHeld ?_ ?_
                      rotate_left
                      ·rintro w' ⟨s0, s1, s2⟩
                       go_simp
                       with_reducible rfl
                      rotate_left
                      ·simp only [Act.put, sI_, s0_, sS_, i64_w, i32_w]
                       rfl
                      refine take_ (i := 9) (N := some 95) (v := ?_) (a' := ?_) #[y_, y_, y_, y_, y_, y_, y_, y_, y_, y_, n_, n_, n_, n_] rfl rfl (take_ofW HT_.out HW_.out (by kernel_rfl)) (fun _ _ _ h => h) (Or.inl ⟨by rfl, ?_⟩) hHeld ?_ ?_
                      rotate_left
                      ·rintro w' ⟨s0, s1, s2⟩
                       go_simp
                       with_reducible rfl
                      rotate_left
                      ·simp only [Act.put, sI_, s0_, sS_, i64_w, i32_w]
                       rfl
                      refine pure_ (i := 10) (N := some 96) (v := ?_) (a' := ?_) #[y_, y_, y_, y_, y_, y_, y_, y_, y_, y_, y_, n_, n_, n_] rfl rfl (any_of HT_.out (by kernel_rfl)) (fun _ _ _ h => h) (Or.inl ⟨by rfl, ?_⟩) ?_ ?_
                      rotate_left
                      ·intro w'
                       go_simp
                       with_reducible rfl
                      rotate_left
                      ·simp only [Act.put, sI_, s0_, sS_, i64_w, i32_w]
                       rfl
                      refine take_ (i := 11) (N := some 97) (v := ?_) (a' := ?_) #[y_, y_, y_, y_, y_, y_, y_, y_, y_, y_, y_, y_, n_, n_] rfl rfl (take_ofW HT_.out HW_.out (by kernel_rfl)) (fun _ _ _ h => h) (Or.inl ⟨by rfl, ?_⟩) hHeld ?_ ?_
                      rotate_left
                      ·rintro w' ⟨s0, s1, s2⟩
                       go_simp
                       with_reducible rfl
                      rotate_left
                      ·simp only [Act.put, sI_, s0_, sS_, i64_w, i32_w]
                       rfl
                      refine one_ (i := 12) (N := some 98) #[y_, y_, y_, y_, y_, y_, y_, y_, y_, y_, y_, y_, y_, n_] rfl rfl (one_of HT_.out (by kernel_rfl)) (by decide) (fun K hK => ?_)
                      refine goes_ Try.func19 (by kernel_rfl) rfl #[.int .i64 a0, .int .i64 (rd l4 t485), .int .i64 (rd l4 (rd t486 x19_4))] (by rfl) rfl rfl (by (try simp only [List.map_toArray, List.map_cons, List.map_nil]); first | done | rfl | (simp only [List.length_drop, List.length_take]; rfl)) ?_
                      with_reducible refine (cohousingref29_Right.calls k4 a0 (rd l4 t485) (rd l4 (rd t486 x19_4)) t492 _ A38.out).mono ?_
                      rintro e w63 ⟨rfl, hb⟩
                      have HS1_ := (hb.cell (World.block_lt_of_cell? _ _ (hHeld.2.1))).trans (hHeld.2.1)
                      refine ⟨_, rfl, ?_⟩
                      have n0_ := Aside0.mk (Kd.R_below (by (with_reducible repeat (first | apply Kd.R_alloc | apply Kd.R_drewN | apply Kd.R_drew)); exact HO_12.out) hb)
                      have n1_ := Aside0.mk (Kd.R_below (by (with_reducible repeat (first | apply Kd.R_alloc | apply Kd.R_drewN | apply Kd.R_drew)); exact HO_18.out) hb)
                      have n2_ := Aside0.mk (below_step (by repeat (first | (with_reducible first | exact HB.out | apply below_alloc | apply pw_below_drewN | apply below_drew1) | exact HB.out)) hb)
                      clear HO_12
                      clear HO_18
                      clear HB
                      have HO_12 := n0_
                      have HO_18 := n1_
                      have HB := n2_
                      clear n0_ n1_ n2_
                      (try clear hb)
                      (try clear hb2)
                      (try clear hk)
                      (try clear hi)
                      refine hK.out _ _ ⟨((HB.out.cell (World.block_lt_of_cell? w _ hw489_0)).trans hw489_0), HS1_, ((HB.out.cell (World.block_lt_of_cell? w _ hw491_0)).trans hw491_0)⟩ (fun hHeld => ?_)
                      clear hK K
                      refine norm_ (a' := ?_) ?_ ?_
                      rotate_left
                      ·show Act.put _ (some 98) _ = _
                       simp only [Act.put, sI_, s0_, sS_, i64_w, i32_w]
                       rfl
                      refine pure_ (i := 13) (N := some 20) (v := ?_) (a' := ?_) #[y_, y_, y_, y_, y_, y_, y_, y_, y_, y_, y_, y_, y_, y_] rfl rfl (any_of HT_.out (by kernel_rfl)) (fun _ _ _ h => h) (Or.inl ⟨by rfl, ?_⟩) ?_ ?_
                      rotate_left
                      ·intro w'
                       go_simp
                       with_reducible rfl
                      rotate_left
                      ·simp only [Act.put, sI_, s0_, sS_, i64_w, i32_w]
                       rfl
                      refine done_ (done_of HT_.out (by kernel_rfl)) ?_
                      have p493 : 0 ≤ (x19_4 : Int) := of_decide_eq_true (by first | (with_reducible assumption) | assumption)
                      have q493 : x19_4 < (t478.length : Int) := of_decide_eq_true (by first | (with_reducible assumption) | assumption)
                      obtain ⟨ad493, e493, hx493_0, hx493_1, hx493_2, hx493_3, hx493_4⟩ := at_T43 (Kd.R_reads' HO_12.out).2.2 x19_4 p493 q493
                      (try rw [← Nbq49.out] at hx493_4)
                      cases e493
                      replace p493 := eq_true p493
                      replace q493 := eq_true q493
                      have p494 : 0 ≤ (x19_4 : Int) := of_decide_eq_true (by first | (with_reducible assumption) | assumption)
                      have q494 : x19_4 < (t478.length : Int) := of_decide_eq_true (by first | (with_reducible assumption) | assumption)
                      obtain ⟨ad494, e494, hx494_0, hx494_1, hx494_2, hx494_3, hx494_4⟩ := at_T43 (Kd.R_reads' HO_12.out).2.2 x19_4 p494 q494
                      (try rw [← Nbq49.out] at hx494_4)
                      obtain rfl : ad493 = ad494 := (by injection e494)
                      replace p494 := eq_true p494
                      replace q494 := eq_true q494
                      have p495 : 0 ≤ (x19_4 : Int) := of_decide_eq_true (by first | (with_reducible assumption) | assumption)
                      have q495 : x19_4 < (t478.length : Int) := of_decide_eq_true (by first | (with_reducible assumption) | assumption)
                      obtain ⟨ad495, e495, hx495_0, hx495_1, hx495_2, hx495_3, hx495_4⟩ := at_T43 (Kd.R_reads' HO_12.out).2.2 x19_4 p495 q495
                      (try rw [← Nbq49.out] at hx495_4)
                      obtain rfl : ad493 = ad495 := (by injection e495)
                      replace p495 := eq_true p495
                      replace q495 := eq_true q495
                      try go_wp2
                      go_roundg k4
                      case measure => have := HJ6.out; have := HJ13.out; have := HJ21.out; have := HK4.out; omega
                      case rel => exact ⟨(wrap64 (x19_4 + 1)), (by first | rfl | (simp; done) | (simp [*]; done)), H', ⟨by have := HJ6.out; have := HJ13.out; have := HJ21.out; have := HK4.out; omega⟩, ⟨by (with_reducible repeat (first | apply Kd.R_alloc | apply Kd.R_drewN | apply Kd.R_drew)); exact HO_12.out⟩, ⟨by (with_reducible repeat (first | apply Kd.R_alloc | apply Kd.R_drewN | apply Kd.R_drew)); exact HO_18.out⟩, ⟨by repeat (first | (with_reducible first | exact HB.out | apply below_alloc | apply pw_below_drewN | apply below_drew1) | exact HB.out)⟩⟩
                  ·rw [if_neg c37] at H
                   exact absurd H (by simp)
                 ·rw [if_neg c36] at H
                  exact absurd H (by simp)
                ·rw [if_neg c35] at H
                 exact absurd H (by simp)
               ·rw [if_neg c34] at H
                exact absurd H (by simp)
              ·rw [if_neg c33] at H
               exact absurd H (by simp)
             ·rw [if_neg c32] at H
              exact absurd H (by simp)
            ·rw [if_neg c31] at H
             have c31b0 : decide (x19_4 < (t478.length : Int)) = false := decide_eq_false c31
             clear c31
             obtain rfl := Option.some.inj H
             obtain ⟨Ao64, co64, eo64⟩ := Kd.R_slice HO_12.out
             subst eo64
             go_wp2
             go_ret
             exact ⟨by first | rfl | (simp [errW_none, errW_some] <;> rfl) | (simp [*, errW_none, errW_some] <;> rfl), by repeat (first | (with_reducible first | exact HB.out | apply below_alloc | apply pw_below_drewN | apply below_drew1) | exact HB.out)⟩
end Go.Proofs.Ytbgchacafglcpaa.P
end
section
namespace Go.Proofs.Ytbgchacafglcpaa.P
open Go.RowKit Go.Proofs.YtbgchacafglcpaaW.PrintWords Go.Proofs.YtbgchacafglcpaaW.PrintLast Go.Proofs.YtbgchacafglcpaaW.PrintMore Go.Proofs.YtbgchacafglcpaaH Go.Proofs.FlowTree
theorem Ev.of_mono {α : Type} {f : Nat → Option α} {r : α} (k0 : Nat) (h0 : f k0 = some r) (h : ∀ k, LeO (f k) (f (k + 1))) : Ev f r := by
 refine ⟨k0, fun k hk => ?_⟩
 obtain ⟨d, rfl⟩ : ∃ d, k = k0 + d := ⟨k - k0, by omega⟩
 induction d with
 | zero => exact h0
 | succ d ih => exact h _ _ (ih (by omega))
theorem head_ev : Ev (fun k => cohousinglaw29_head.f k) true := Ev.of_mono 60 (by kernel_rfl) (fun k => cohousinglaw29_head.mono k)
section
variable {c t : Int} {l : List RGE}
end
end Go.Proofs.Ytbgchacafglcpaa.P
end
section
namespace Go.Proofs.Ytbgchacafglcpaa.P
open Go.RowKit Go.Proofs.YtbgchacafglcpaaW.PrintWords Go.Proofs.YtbgchacafglcpaaW.PrintLast Go.Proofs.YtbgchacafglcpaaW.PrintMore Go.Proofs.YtbgchacafglcpaaH Go.Proofs.FlowTree
open Classical
theorem few_f (l : List PI) (r : List RG) (h : List Int) : cohousinglaw29_few.f l r h = some (decide (l.length ≤ 20 ∧ r.length ≤ 20 ∧ h.length ≤ 20)) := by
 unfold cohousinglaw29_few.f
 by_cases a : l.length ≤ 20
 ·by_cases b : r.length ≤ 20
  ·rw [if_pos (by omega), if_pos (by omega)]
   congr 1
   exact decide_eq_decide.2 (by omega)
  ·rw [if_pos (by omega), if_neg (by omega), decide_eq_false (fun h => b h.2.1)]
 ·rw [if_neg (by omega), decide_eq_false (fun h => a h.1)]
theorem gB_f {l : List PI} {r : List RG} (hl : l.length ≤ 200) (hr : r.length ≤ 200) : flow_Bounds.f l r = some (boundsR l r) := by unfold flow_Bounds.f; rw [if_pos ⟨by omega, by omega⟩]
theorem gC_f {l : List PI} {r : List RG} {x : List Int} (hl : l.length ≤ 200) (hr : r.length ≤ 200) (hx : x.length ≤ 200) : flow_Consistent.f l r x = some (consR l r x) := by unfold flow_Consistent.f; rw [if_pos ⟨by omega, by omega, by omega⟩]
theorem gN_f {c : Int} {l : List PI} {r : List RG} {h : List Int} (hl : l.length ≤ 200) (hr : r.length ≤ 200) : charges_Network.f c l r h = some (networkC c l r h) := by unfold charges_Network.f; rw [if_pos ⟨by omega, by omega⟩]
section
variable {c : Int} {l : List PI} {known : List RG} {homes : List Int} {q : List CH × Int × Int} {d : List IV} {m : Nat} {p : List CH × Int}
def lf (l : List PI) (i : Nat) : Nat := (leavesN l l.length).getD i 0
theorem lf_rd (l : List PI) {i : Nat} (h : i < (leavesN l l.length).length) : rd ((leavesN l l.length).map Int.ofNat) (i : Int) = (lf l i : Int) := by
 rw [rd_ofNat _ _ h]
 simp [lf, List.getD_eq_getElem?_getD, h]
theorem lf_lt (l : List PI) {i : Nat} (h : i < (leavesN l l.length).length) : lf l i < l.length := by
 have : lf l i ∈ leavesN l l.length := by simp [lf, List.getD_eq_getElem?_getD, h]
 exact (leavesN_mem.1 this).1
theorem parts_q (l : List PI) (d : List IV) {i : Nat} (h : i < (leavesN l l.length).length) : qq ((leavesN l l.length).map (fun j => toR (rv d j))) i = toR (rv d (lf l i)) := by
 simp [qq, rd_T38, lf, List.getD_eq_getElem?_getD, h]
theorem parts_b (l : List PI) (d : List IV) (c t : Int) {i : Nat} (h : i < (leavesN l l.length).length) : bLo c t ((leavesN l l.length).map (fun j => toR (rv d j))) i = rightV c t (Lo d (lf l i)) ∧ bHi c t ((leavesN l l.length).map (fun j => toR (rv d j))) i = rightV c t (Hi d (lf l i)) := by
 unfold bLo bHi
 rw [parts_q l d h]
 exact ⟨rfl, rfl⟩
theorem right_at (h : NetOk c l known homes q d m p) {x : List Int} (hx : Sol (netT l) (lo9 known) (hi9 known) (fx x)) {i : Nat} (hi : i < (leavesN l l.length).length) :
  fx x m = Lo d m ∧ Lo d (lf l i) ≤ fx x (lf l i) ∧ fx x (lf l i) ≤ Hi d (lf l i) ∧ 0 ≤ Lo d (lf l i) ∧ Hi d (lf l i) ≤ Lo d m ∧ Ev (fun k => cohousingref29_Right.f k c (fx x m) (fx x (lf l i))) (rightV c (Lo d m) (fx x (lf l i))) := by
 have h1 := h.exact.sol (fx x) hx m h.root
 have h2 := h.exact.sol (fx x) hx (lf l i) (lf_lt l hi)
 have h3 := h.same
 have h4 := h.parts.2.2.2.2.2 i (by rw [List.length_map]; exact hi)
 rw [parts_q l d hi] at h4
 have h5 : (toR (rv d (lf l i))).f0 = Lo d (lf l i) := rfl
 have h6 : (toR (rv d (lf l i))).f1 = Hi d (lf l i) := rfl
 rw [h5, h6] at h4
 have e : fx x m = Lo d m := by omega
 refine ⟨e, h2.1, h2.2, h4.1, h4.2.2, ?_⟩
 rw [e]
 exact right_ref h.parts.1 h.parts.2.1 h.pos h.parts.2.2.2.1 (by omega) (by omega)
theorem right_l0' (h : NetOk c l known homes q d m p) {x : List Int} (hxl : x.length = l.length) (hx : Sol (netT l) (lo9 known) (hi9 known) (fx x)) : ∀ e i : Nat, i + e = (leavesN l l.length).length →
  Ev (fun k => cohousinglaw29_ChargesRight.l0 k c x true p.1 (m : Int) ((leavesN l l.length).map Int.ofNat) (i : Int)) true := by
 have hn := h.good.n
 have hL := leavesN_len l l.length
 have hpl : p.1.length = (leavesN l l.length).length := by rw [h.low.len, List.length_map]
 intro e
 induction e with
 | zero =>
  intro i hi
  have h1 : ¬ ((i : Int) < (p.1.length : Int)) := by omega
  refine Ev.step ?_
  simp only [cohousinglaw29_ChargesRight.l0, h1, if_false]
  exact Ev.pure _
 | succ e ih =>
  intro i hi
  have hil : i < (leavesN l l.length).length := by omega
  obtain ⟨r1, r2, r3, r4, r5, r6⟩ := right_at h hx hil
  have hlt := lf_lt l hil
  have hm := h.root
  have h1 : ((i : Int) < (p.1.length : Int)) := by omega
  have h2 : (0 : Int) ≤ (m : Int) := by omega
  have h3 : ((m : Int) < (x.length : Int)) := by omega
  have h4 : (0 : Int) ≤ (i : Int) := by omega
  have h5 : ((i : Int) < (((leavesN l l.length).map Int.ofNat).length : Int)) := by rw [List.length_map]; omega
  have h6 : (0 : Int) ≤ (lf l i : Int) := by omega
  have h7 : ((lf l i : Int) < (x.length : Int)) := by omega
  have hf := h.low.form i (by rw [List.length_map]; exact hil)
  obtain ⟨b1, b2⟩ := parts_b l d c (Lo d m) hil
  have mo1 := right_mono (c := c) (t := Lo d m) h.parts.1 h.pos r2
  have mo2 := right_mono (c := c) (t := Lo d m) h.parts.1 h.pos r3
  have q1 : (rd_T43 p.1 (i : Int)).f2.f0 = rightV c (Lo d m) (Lo d (lf l i)) := hf.lo.trans b1
  have q2 : (rd_T43 p.1 (i : Int)).f2.f1 = rightV c (Lo d m) (Hi d (lf l i)) := hf.hi.trans b2
  have q3 : (rd_T43 p.1 (i : Int)).f3 = (rightV c (Lo d m) (Lo d (lf l i)) == rightV c (Lo d m) (Hi d (lf l i))) := by rw [← b1, ← b2]; exact hf.sure
  have q4 := hf.ge
  have q5 := hf.le
  rw [b1] at q4
  rw [b2] at q5
  have c1 : ¬ (rightV c (Lo d m) (fx x (lf l i)) < rightV c (Lo d m) (Lo d (lf l i))) := by omega
  have c2 : ¬ (rightV c (Lo d m) (fx x (lf l i)) > rightV c (Lo d m) (Hi d (lf l i))) := by omega
  have hw := wrap_nat (show i ≤ 140737488355328 by omega)
  have hrec := ih (i + 1) (by omega)
  have e1 : rd x (m : Int) = fx x m := rfl
  have e2 : rd x (lf l i : Int) = fx x (lf l i) := rfl
  refine Ev.step ?_
  simp only [cohousinglaw29_ChargesRight.l0, h1, h2, h3, h4, h5, if_true, lf_rd l hil, h6, h7, e1, e2]
  refine Ev.bnd r6 ?_
  simp only [q1, q2, c1, c2, if_false]
  by_cases c3 : rightV c (Lo d m) (Lo d (lf l i)) = rightV c (Lo d m) (Hi d (lf l i))
  ·have c4 : (rd_T43 p.1 (i : Int)).f3 = true := by rw [q3]; exact beq_iff_eq.2 c3
   have c5 : rightV c (Lo d m) (fx x (lf l i)) = (rd_T43 p.1 (i : Int)).f1 := by
    have : (rd_T43 p.1 (i : Int)).f1 = (cc p.1 i).f1 := rfl
    omega
   simp only [c4, if_true, c5, hw]
   exact hrec
  ·have c4 : (rd_T43 p.1 (i : Int)).f3 = false := by rw [q3]; exact beq_eq_false_iff_ne.2 c3
   simp only [c4, Bool.false_eq_true, if_false, hw]
   exact hrec
theorem right_ (c : Int) (l : List PI) (known : List RG) (homes x : List Int) : Ev (fun k => cohousinglaw29_ChargesRight.f k c l known homes x) true := by
 have hout : Ev (fun k => cohousinglaw29_ChargesRight.j0 k c l known homes x true true) true := by
  refine Ev.step ?_
  simp only [cohousinglaw29_ChargesRight.j0, if_true]
  exact Ev.pure _
 have hout1 : ∀ q : List CH, Ev (fun k => cohousinglaw29_ChargesRight.j1 k c l x true q true) true := fun q => by
  refine Ev.step ?_
  simp only [cohousinglaw29_ChargesRight.j1, if_true]
  exact Ev.pure _
 unfold cohousinglaw29_ChargesRight.f
 refine Ev.bnd head_ev ?_
 simp only [few_f, Option.bind_some]
 by_cases hf : l.length ≤ 20 ∧ known.length ≤ 20 ∧ homes.length ≤ 20
 case neg =>
  rw [decide_eq_false hf]
  simp only [Bool.false_eq_true, if_false]
  exact hout
 rw [decide_eq_true hf]
 simp only [if_true]
 by_cases hx : (x.length : Int) > 20
 ·rw [decide_eq_true hx]
  exact hout
 rw [decide_eq_false hx]
 refine Ev.step ?_
 simp only [cohousinglaw29_ChargesRight.j0, Bool.false_eq_true, if_false, gN_f (c := c) (h := homes) (show l.length ≤ 200 by omega) (show known.length ≤ 200 by omega), gC_f (x := x) (show l.length ≤ 200 by omega) (show known.length ≤ 200 by omega) (by omega), Option.bind_some]
 by_cases hz : (networkC c l known homes).2.2 = 0
 case neg =>
  simp only [hz, if_false]
  exact hout1 _
 obtain ⟨d, m, p, hN⟩ := network_ok hz
 have hres := hN.res
 rw [hres]
 simp only [if_true]
 rw [consR_is]
 by_cases hg : Good l known ∧ x.length = l.length
 case neg =>
  rw [if_neg hg]
  have e : ((1 : Int) = 0) = False := by simp
  simp only [e, if_false]
  exact hout1 _
 rw [if_pos hg]
 simp only [if_true]
 by_cases hs : Sol (netT l) (lo9 known) (hi9 known) (fx x)
 case neg =>
  rw [decide_eq_false hs]
  exact hout1 _
 rw [decide_eq_true hs]
 have hn := hN.good.n
 obtain ⟨r, hr, hR⟩ := root_ev l (by omega)
 rcases hR with ⟨hne, _⟩ | ⟨_, m', hm', rfl, _, htot⟩
 ·exact absurd hN.one hne
 have hmm : Lo d m' = Lo d m ∧ Hi d m' = Hi d m := by
  have h1 := (htot (d.map toR)).symm.trans (hN.tot (d.map toR))
  rw [qq_toR, qq_toR] at h1
  have h2 : (toR (rv d m')).f0 = (toR (rv d m)).f0 := by rw [h1]
  have h3 : (toR (rv d m')).f1 = (toR (rv d m)).f1 := by rw [h1]
  exact ⟨h2, h3⟩
 have hN' : NetOk c l known homes (networkC c l known homes) d m' p :=
  ⟨hN.good, hN.bounds, hN.exact, hm', hN.one, htot, by rw [hmm.1, hmm.2]; exact hN.same, by rw [hmm.1]; exact hN.pos, by rw [hmm.1]; exact hN.parts, by rw [hmm.1]; exact hN.low, by rw [hmm.1]; exact hN.flow, hN.res⟩
 refine Ev.step ?_
 simp only [cohousinglaw29_ChargesRight.j1, Bool.not_true, Bool.false_eq_true, if_false]
 refine Ev.bnd hr ?_
 refine Ev.bnd (leaves_ev l hn) ?_
 have h1 : ¬ ((m' : Int) < 0) := by omega
 have h2 : ((((leavesN l l.length).map Int.ofNat).length : Int)) = (p.1.length : Int) := by rw [hN.low.len, List.length_map, List.length_map]
 have h3 : ((x.length : Int) != (l.length : Int)) = false := by rw [hg.2]; simp
 simp only [h1, if_false, h2, if_true, h3]
 refine Ev.step ?_
 simp only [cohousinglaw29_ChargesRight.j2, Bool.false_eq_true, if_false]
 exact right_l0' hN' hg.2 hs (leavesN l l.length).length 0 (by omega)
end
end Go.Proofs.Ytbgchacafglcpaa.P
end
